/- Part of the proofs about package mem. -/
import Derived.Test.YtgpekomaoeockaaMemL0
import Derived.Deep.DeepCutAuto
import Derived.Deep.CutBlock
import Derived.RegionTactic
import Derived.ChangeAlike
namespace Go.Proofs.Ytgpekomaoeockaa.MemC
open Go.RowKit Go.Proofs.YtgpekomaoeockaaW.PrintWords Go.Proofs.YtgpekomaoeockaaW.PrintLast Go.Proofs.YtgpekomaoeockaaW.PrintMore Go.Proofs.Ytgpekomaoeockaa.QMemSizes
set_option linter.unusedVariables false
set_option maxHeartbeats 16000000 in
set_option maxRecDepth 100000 in
/-- One act of the law's loop (other). -/
theorem MemPlays.other (s h : Int) (A0 : Option Addr) (c0 c1 c2 p sb hb : Nat) (acts : List S50) (w : World) (K1 K2 K0 : Act → World → Prop) (R0 : Ending → World → Prop) (hr0 : Kd.C k50 w A0 acts.length acts) (hl0 : acts.length * 24 ≤ 140737488351232) (l1 : c1 ≤ 3000) (l2 : c2 ≤ 3000)
    (i : Nat) (hc1 : i < acts.length) (hi40 : i < 40) (hcase : (rd_T50 acts (i : Int)).f0 ≠ 0 ∧ (rd_T50 acts (i : Int)).f0 ≠ 1) (u3 u4 u5 u24 u25 u26 u27 u28 u29 u30 u31 u32 u33 u34 u35 u36 u37 u38 u39 u40 u226 : Value)
    (hK : ∀ {u6 u13 u14 u15 u16 u17 u18 u19 u20 u21 u22 u23 u41 u42 u43 u44 u45 u46 u47 u48 u49 u50 u51 u52 u53 u54 u55 u56 u57 u58 u59 u60 u61 u62 u63 u64 u65 u66 u67 u68 u69 u70 u71 u72 u73 u74 u75 u76 u77 u78 u79 u80 u81 u82 u83 u84 u85 u86 u87 u88 u89 u90 u91 u92 u93 u94 u95 u96 u97 u98 u99 u100 u101 u102 u103 u104 u105 u106 u107 u108 u109 u110 u111 u112 u113 u114 u115 u116 u117 u118 u119 u120 u121 u122 u123 u124 u125 u126 u127 u128 u129 u130 u131 u132 u133 u134 u135 u136 u137 u138 u139 u140 u141 u142 u143 u144 u145 u146 u147 u148 u149 u150 u151 u152 u153 u154 u155 u156 u157 u158 u159 u160 u161 u162 u163 u164 u165 u166 u167 u168 u169 u170 u171 u172 u173 u174 u175 u176 u177 u178 u179 u180 u181 u182 u183 u184 u185 u186 u187 u188 u189 u190 u191 u192 u193 u194 u195 u196 u197 u198 u199 u200 u201 u202 u203 u204 u205 u206 u207 u208 u209 u210 u211 u212 u213 u214 u215 u216 u217 u218 u219 u220 u221 u222 u223 u224 u225 : Value} {t : Int} {M : Nat} {zs : List LReg} {mv : Value} {B : Option Addr} {bap : Nat} {w' : World}, t = ((tot (regs zs) : Nat) : Int) → zs.length = M → M ≤ i + 1 → PL w w' w.heap.size p sb hb (List.replicate c1 0) c2 zs mv (.slice B M bap) → K1 ⟨List.toArray (.int .i64 s :: .int .i64 h :: .slice A0 acts.length c0 :: u3 :: u4 :: u5 :: u6 :: .pointer (some ⟨p, 0, none⟩) :: .int .i64 (c2 : Int) :: .int .i64 (c1 : Int) :: .slice B M bap :: .int .i64 t :: .int .i64 (i : Int) :: u13 :: u14 :: u15 :: u16 :: u17 :: u18 :: u19 :: u20 :: u21 :: u22 :: u23 :: u24 :: u25 :: u26 :: u27 :: u28 :: u29 :: u30 :: u31 :: u32 :: u33 :: u34 :: u35 :: u36 :: u37 :: u38 :: u39 :: u40 :: u41 :: u42 :: u43 :: u44 :: u45 :: u46 :: u47 :: u48 :: u49 :: u50 :: u51 :: u52 :: u53 :: u54 :: u55 :: u56 :: u57 :: u58 :: u59 :: u60 :: u61 :: u62 :: u63 :: u64 :: u65 :: u66 :: u67 :: u68 :: u69 :: u70 :: u71 :: u72 :: u73 :: u74 :: u75 :: u76 :: u77 :: u78 :: u79 :: u80 :: u81 :: u82 :: u83 :: u84 :: u85 :: u86 :: u87 :: u88 :: u89 :: u90 :: u91 :: u92 :: u93 :: u94 :: u95 :: u96 :: u97 :: u98 :: u99 :: u100 :: u101 :: u102 :: u103 :: u104 :: u105 :: u106 :: u107 :: u108 :: u109 :: u110 :: u111 :: u112 :: u113 :: u114 :: u115 :: u116 :: u117 :: u118 :: u119 :: u120 :: u121 :: u122 :: u123 :: u124 :: u125 :: u126 :: u127 :: u128 :: u129 :: u130 :: u131 :: u132 :: u133 :: u134 :: u135 :: u136 :: u137 :: u138 :: u139 :: u140 :: u141 :: u142 :: u143 :: u144 :: u145 :: u146 :: u147 :: u148 :: u149 :: u150 :: u151 :: u152 :: u153 :: u154 :: u155 :: u156 :: u157 :: u158 :: u159 :: u160 :: u161 :: u162 :: u163 :: u164 :: u165 :: u166 :: u167 :: u168 :: u169 :: u170 :: u171 :: u172 :: u173 :: u174 :: u175 :: u176 :: u177 :: u178 :: u179 :: u180 :: u181 :: u182 :: u183 :: u184 :: u185 :: u186 :: u187 :: u188 :: u189 :: u190 :: u191 :: u192 :: u193 :: u194 :: u195 :: u196 :: u197 :: u198 :: u199 :: u200 :: u201 :: u202 :: u203 :: u204 :: u205 :: u206 :: u207 :: u208 :: u209 :: u210 :: u211 :: u212 :: u213 :: u214 :: u215 :: u216 :: u217 :: u218 :: u219 :: u220 :: u221 :: u222 :: u223 :: u224 :: u225 :: u226 :: []), []⟩ w')
    (u6 u13 u14 u15 u16 u17 u18 u19 u20 u21 u22 u23 u41 u42 u43 u44 u45 u46 u47 u48 u49 u50 u51 u52 u53 u54 u55 u56 u57 u58 u59 u60 u61 u62 u63 u64 u65 u66 u67 u68 u69 u70 u71 u72 u73 u74 u75 u76 u77 u78 u79 u80 u81 u82 u83 u84 u85 u86 u87 u88 u89 u90 u91 u92 u93 u94 u95 u96 u97 u98 u99 u100 u101 u102 u103 u104 u105 u106 u107 u108 u109 u110 u111 u112 u113 u114 u115 u116 u117 u118 u119 u120 u121 u122 u123 u124 u125 u126 u127 u128 u129 u130 u131 u132 u133 u134 u135 u136 u137 u138 u139 u140 u141 u142 u143 u144 u145 u146 u147 u148 u149 u150 u151 u152 u153 u154 u155 u156 u157 u158 u159 u160 u161 u162 u163 u164 u165 u166 u167 u168 u169 u170 u171 u172 u173 u174 u175 u176 u177 u178 u179 u180 u181 u182 u183 u184 u185 u186 u187 u188 u189 u190 u191 u192 u193 u194 u195 u196 u197 u198 u199 u200 u201 u202 u203 u204 u205 u206 u207 u208 u209 u210 u211 u212 u213 u214 u215 u216 u217 u218 u219 u220 u221 u222 u223 u224 u225 : Value) (ys : List LReg) (lv : Value) (A : Option Addr) (cap : Nat) (wr : World) (hy : ys.length ≤ i) (hL : PL w wr w.heap.size p sb hb (List.replicate c1 0) c2 ys lv (.slice A ys.length cap)) :
    Code.wp Try.prog playsBlock (Exit.then K1 (Exit.then K2 (Exit.inBlock 0 (Exit.then K0 (bodyPost Try.prog Try.f3 R0))))) ⟨List.toArray (.int .i64 s :: .int .i64 h :: .slice A0 acts.length c0 :: u3 :: u4 :: u5 :: u6 :: .pointer (some ⟨p, 0, none⟩) :: .int .i64 (c2 : Int) :: .int .i64 (c1 : Int) :: .slice A ys.length cap :: .int .i64 ((tot (regs ys) : Nat) : Int) :: .int .i64 (i : Int) :: u13 :: u14 :: u15 :: u16 :: u17 :: u18 :: u19 :: u20 :: u21 :: u22 :: u23 :: u24 :: u25 :: u26 :: u27 :: u28 :: u29 :: u30 :: u31 :: u32 :: u33 :: u34 :: u35 :: u36 :: u37 :: u38 :: u39 :: u40 :: u41 :: u42 :: u43 :: u44 :: u45 :: u46 :: u47 :: u48 :: u49 :: u50 :: u51 :: u52 :: u53 :: u54 :: u55 :: u56 :: u57 :: u58 :: u59 :: u60 :: u61 :: u62 :: u63 :: u64 :: u65 :: u66 :: u67 :: u68 :: u69 :: u70 :: u71 :: u72 :: u73 :: u74 :: u75 :: u76 :: u77 :: u78 :: u79 :: u80 :: u81 :: u82 :: u83 :: u84 :: u85 :: u86 :: u87 :: u88 :: u89 :: u90 :: u91 :: u92 :: u93 :: u94 :: u95 :: u96 :: u97 :: u98 :: u99 :: u100 :: u101 :: u102 :: u103 :: u104 :: u105 :: u106 :: u107 :: u108 :: u109 :: u110 :: u111 :: u112 :: u113 :: u114 :: u115 :: u116 :: u117 :: u118 :: u119 :: u120 :: u121 :: u122 :: u123 :: u124 :: u125 :: u126 :: u127 :: u128 :: u129 :: u130 :: u131 :: u132 :: u133 :: u134 :: u135 :: u136 :: u137 :: u138 :: u139 :: u140 :: u141 :: u142 :: u143 :: u144 :: u145 :: u146 :: u147 :: u148 :: u149 :: u150 :: u151 :: u152 :: u153 :: u154 :: u155 :: u156 :: u157 :: u158 :: u159 :: u160 :: u161 :: u162 :: u163 :: u164 :: u165 :: u166 :: u167 :: u168 :: u169 :: u170 :: u171 :: u172 :: u173 :: u174 :: u175 :: u176 :: u177 :: u178 :: u179 :: u180 :: u181 :: u182 :: u183 :: u184 :: u185 :: u186 :: u187 :: u188 :: u189 :: u190 :: u191 :: u192 :: u193 :: u194 :: u195 :: u196 :: u197 :: u198 :: u199 :: u200 :: u201 :: u202 :: u203 :: u204 :: u205 :: u206 :: u207 :: u208 :: u209 :: u210 :: u211 :: u212 :: u213 :: u214 :: u215 :: u216 :: u217 :: u218 :: u219 :: u220 :: u221 :: u222 :: u223 :: u224 :: u225 :: u226 :: []), []⟩ wr := by
  conv => arg 2; whnf
  have HR := Aside0.mk hr0
  have HL := Aside0.mk hL
  have HK1 := Aside0.mk (@hK)
  have HY := Aside0.mk hy
  have HC2 := Aside0.mk hi40
  have hi9 : (i : Int) ≤ 40 := by omega
  clear hr0 hL hK hy
  have HRw := Kd.C_below HR.out HL.out.bel
  obtain ⟨ad, rfl, hx0, hx1, hx2⟩ := at_T50 HRw (i : Int) (by omega) (by omega)
  simp only [Int.toNat_natCast] at hx0 hx1 hx2
  have z1 : (0 ≤ (i : Int)) = True := eq_true (by omega)
  have z2 : ((i : Int) < (acts.length : Int)) = True := eq_true (by omega)
  obtain ⟨xw, xn, xa, hxw, hxn, hxa⟩ : ∃ xw xn xa, (rd_T50 acts (i : Int)).f0 = xw ∧ (rd_T50 acts (i : Int)).f1 = xn ∧ (rd_T50 acts (i : Int)).f2 = xa := ⟨_, _, _, rfl, rfl, rfl⟩
  rw [hxw] at hx0
  rw [hxn] at hx1
  rw [hxa] at hx2
  clear HRw hc1 hi40 hxn hxa
  go_wp2_with fail
  have HA6 := Aside0.mk (show (wr.alloc (Obj.cells #[Value.int IntKind.i64 xw, Value.int IntKind.i64 xn, Value.int IntKind.i64 xa] 28)).heap[wr.heap.size]? = some (.cells #[Value.int IntKind.i64 xw, Value.int IntKind.i64 xn, Value.int IntKind.i64 xa] 28 (0, 0)) from heap_alloc_new wr _)
  have HL6 := Aside0.mk (HL.out.below (below_alloc (Below.refl _ _) (Obj.cells #[Value.int IntKind.i64 xw, Value.int IntKind.i64 xn, Value.int IntKind.i64 xa] 28)))
  clear hx0 hx1 hx2 HL
  generalize wr.alloc (Obj.cells #[Value.int IntKind.i64 xw, Value.int IntKind.i64 xn, Value.int IntKind.i64 xa] 28) = w6 at HA6 HL6 ⊢
  generalize wr.heap.size = gb at HA6 ⊢
  go_loopg [14, 15] (ys.length + 1) (fun kq v14 v15 w' => ∃ (k : Nat) (a : Int), v15 = .int .i64 (k : Int) ∧ v14 = .int .i64 a ∧ Aside0 (AtR ys xn k a) ∧ Aside0 (k ≤ ys.length) ∧ Aside0 (k + kq = ys.length + 1) ∧ Aside0 (w'.heap[gb]? = some (.cells #[Value.int IntKind.i64 xw, Value.int IntKind.i64 xn, Value.int IntKind.i64 xa] 28 (0, 0))) ∧ Aside0 (PL w w' w.heap.size p sb hb (List.replicate c1 0) c2 ys lv (.slice A ys.length cap)))
  case atStart => exact ⟨0, -1, rfl, rfl, ⟨AtR.start _ _⟩, ⟨Nat.zero_le _⟩, ⟨by omega⟩, HA6, HL6⟩
  case round =>
    clear HA6 HL6
    obtain ⟨k, a, rfl, rfl, HAT, HK, HKQ, HA, HL⟩ := hrel
    cases gk with
    | zero => exact absurd HK.out (by have := HKQ.out; omega)
    | succ k2 =>
      by_cases hk : k < ys.length
      · obtain ⟨g, cap', hv, _⟩ := HL.out.form (by omega)
        injection hv with hv _ hcap
        subst hv
        subst hcap
        have hy0 := HL.out.id k hk
        have hn1 := (blk_cell HA.out 1).trans rfl
        have HK2 := Aside0.mk hk
        have y1 : (0 ≤ (k : Int)) = True := eq_true (by omega)
        have y2 : ((k : Int) < (ys.length : Int)) = True := eq_true (by omega)
        have hk9 : (k : Int) ≤ 40 := by have := HL.out.few; omega
        by_cases he : ys[k].1.1 = xn
        · have HE2 := Aside0.mk (HAT.out.yes hk he)
          have e1 : (ys[k].1.1 == xn) = true := beq_iff_eq.mpr he
          clear he
          go_wp2_with fail
          go_quiet (fail)
          go_wp2_with fail
          go_roundg k2
          case measure => have := HKQ.out; omega
          case rel => exact ⟨k + 1, _, by go_num, rfl, HE2, ⟨HK2.out⟩, ⟨by have := HKQ.out; omega⟩, ⟨blk_drewN HA.out _⟩, ⟨HL.out.drewN _⟩⟩
        · have HE2 := Aside0.mk (HAT.out.no hk he)
          have e1 : (ys[k].1.1 == xn) = false := beq_eq_false_iff_ne.mpr he
          clear he
          go_wp2_with fail
          go_quiet (fail)
          go_wp2_with fail
          go_roundg k2
          case measure => have := HKQ.out; omega
          case rel => exact ⟨k + 1, _, by go_num, rfl, HE2, ⟨HK2.out⟩, ⟨by have := HKQ.out; omega⟩, ⟨blk_drewN HA.out _⟩, ⟨HL.out.drewN _⟩⟩
      · have hke : k = ys.length := by have := HK.out; omega
        subst hke
        clear hk HK HKQ
        have hw0 := (blk_cell HA.out 0).trans rfl
        have hn1 := (blk_cell HA.out 1).trans rfl
        have ha2 := (blk_cell HA.out 2).trans rfl
        have f0 : (xw == 0) = false := beq_eq_false_iff_ne.mpr (fun e => hcase.1 (hxw.trans e))
        have f1 : (xw == 1) = false := beq_eq_false_iff_ne.mpr (fun e => hcase.2 (hxw.trans e))
        clear hxw hcase
        by_cases hN : ys.length = 0
        · have n1 : ((ys.length : Int) == 0) = true := by rw [hN]; rfl
          have n2 : (ys.length == 0) = true := by rw [hN]; rfl
          have HN0 := Aside0.mk hN
          clear hN
          go_wp2_with fail
          exact HK1.out (zs := ys) (mv := lv) rfl rfl (by have := HN0.out; omega) HL.out
        · have n1 : ((ys.length : Int) == 0) = false := beq_eq_false_iff_ne.mpr (by omega)
          have n2 : (ys.length == 0) = false := beq_eq_false_iff_ne.mpr hN
          obtain ⟨kk, hkk⟩ : ∃ kk, kk = i % ys.length := ⟨_, rfl⟩
          have hkm : (i : Int) % (ys.length : Int) = (kk : Int) := by rw [hkk]; omega
          have hki : kk < ys.length := by rw [hkk]; exact Nat.mod_lt _ (by omega)
          obtain ⟨g, cap', hv, _⟩ := HL.out.form (by omega)
          injection hv with hv _ hcap
          subst hv
          subst hcap
          have y1 : (0 ≤ (kk : Int)) = True := eq_true (by omega)
          have y2 : ((kk : Int) < (ys.length : Int)) = True := eq_true (by omega)
          have y3 : 1 ≤ (ys.length : Int) := by omega
          have hy0 := HL.out.id kk hki
          have HKI := Aside0.mk hki
          clear hkk hN
          go_wp2_with fail
          refine (HL.out.region kk HKI.out).mono ?_
          rintro e w7 ⟨o, rfl, ho, hbw, hl7⟩
          try refine ⟨_, rfl, ?_⟩
          have HL7 := Aside0.mk hl7
          have HO := Aside0.mk ho
          have HA7 := Aside0.mk ((hbw.block gb (blk_lt HA.out)).trans HA.out)
          clear hbw
          have hy1 := hl7.sl kk hki
          have ha3 := (blk_cell HA7.out 2).trans rfl
          have hn3 := (blk_cell HA7.out 1).trans rfl
          have hin := hl7.inner_le kk hki
          have hc3 : (ys[kk].1.2.length : Int) ≤ 3000 := by omega
          have t2 := two_ne (ys[kk].1.2.length : Int)
          clear hy0 ha2 hin
          by_cases hc0 : ys[kk].1.2.length = 0
          · have m1 : ((ys[kk].1.2.length : Int) == 0) = true := by rw [hc0]; rfl
            have m2 : (ys[kk].1.2.length == 0) = true := by rw [hc0]; rfl
            clear hc0
            go_wp2_with fail
            exact HK1.out (zs := ys) (mv := lv) rfl rfl (by have := HY.out; omega) HL7.out
          · have m1 : ((ys[kk].1.2.length : Int) == 0) = false := beq_eq_false_iff_ne.mpr (by omega)
            have m2 : (ys[kk].1.2.length == 0) = false := beq_eq_false_iff_ne.mpr hc0
            have hcp : 0 < ys[kk].1.2.length := by omega
            have htb := tmod_bd xa ys[kk].1.2.length hcp
            obtain ⟨r, hr⟩ : ∃ r, xa.tmod (ys[kk].1.2.length : Int) = r := ⟨_, rfl⟩
            rw [hr] at htb
            obtain rfl := HO.out hcp
            have HR2 := Aside0.mk hr
            obtain ⟨q, hq⟩ : ∃ q : Nat, q < ys[kk].1.2.length ∧ ((r < 0 ∧ r + (ys[kk].1.2.length : Int) = (q : Int)) ∨ (0 ≤ r ∧ r = (q : Int))) := by
              by_cases h : r < 0
              · exact ⟨(r + (ys[kk].1.2.length : Int)).toNat, by omega, .inl ⟨h, by omega⟩⟩
              · exact ⟨r.toNat, by omega, .inr ⟨by omega, by omega⟩⟩
            obtain ⟨hq, hqr⟩ := hq
            have HQL := Aside0.mk hq
            have HNE := Aside0.mk (hl7.nes kk hki)
            obtain ⟨e1, e2, e3, e4⟩ := hl7.nes kk hki
            have e5 : gb ≠ hb := by obtain ⟨j0, g1, _⟩ := hl7.ms.hea; exact blk_ne HA7.out g1 (by decide)
            have e6 : hb ≠ gb := fun e => e5 e.symm
            have hcr := hl7.read kk hki q hq
            have hci := hl7.inner kk hki q hq
            have hcf := hl7.ms.fr (MemC.tot (List.take kk (regs ys)) + q)
            have hif := blk_frozen (hl7.ll.row kk hki).1 q
            have p1 : (0 ≤ (q : Int)) = True := eq_true (by omega)
            have p2 : ((q : Int) < (ys[kk].1.2.length : Int)) = True := eq_true (by omega)
            have HW := Aside0.mk (hl7.write kk hki q hq (wrap32 xn))
            generalize ys[kk].1.2[q] = vq at hcr hci
            clear hl7 ho hcp hc0
            rcases hqr with ⟨r1, r2⟩ | ⟨r1, r2⟩
            · have d5 : decide (r < 0) = true := decide_eq_true r1
              have r3 := r2
              clear r2
              have hlt : r + (ys[kk].1.2.length : Int) ≤ 3000 := by omega
              have hge : 0 ≤ r + (ys[kk].1.2.length : Int) := by omega
              have hr9 := HR2.out
              go_wp2_with fail
              go_region
              have HW9 := Aside0.mk HW.out.drew1
              have HTW := Aside0.mk (tot_wroteL ys kk HKI.out q hq (wrap32 xn))
              have HLW := Aside0.mk (wroteL_length ys kk q (wrap32 xn))
              clear HW hcr hci hcf hif hy1 ha3 hn3
              go_wp2_with fail
              refine (alike.calls' HW9.out HLW.out (by rw [HTW.out]) (List.length_replicate)).mono ?_
              rintro e w8 ⟨rfl, hl8⟩
              have HL8 := Aside0.mk hl8
              clear hl8 HW9
              go_wp2_with fail
              exact HK1.out (zs := wroteL ys kk q (wrap32 xn)) (mv := lv) (by rw [HTW.out]) HLW.out (by have := HY.out; omega) HL8.out
            · have d5 : decide (r < 0) = false := decide_eq_false (by omega)
              rw [r2] at HR2
              have hr9 := HR2.out
              subst r2
              go_wp2_with fail
              go_region
              have HW9 := Aside0.mk HW.out.drew1
              have HTW := Aside0.mk (tot_wroteL ys kk HKI.out q hq (wrap32 xn))
              have HLW := Aside0.mk (wroteL_length ys kk q (wrap32 xn))
              clear HW hcr hci hcf hif hy1 ha3 hn3
              go_wp2_with fail
              refine (alike.calls' HW9.out HLW.out (by rw [HTW.out]) (List.length_replicate)).mono ?_
              rintro e w8 ⟨rfl, hl8⟩
              have HL8 := Aside0.mk hl8
              clear hl8 HW9
              go_wp2_with fail
              exact HK1.out (zs := wroteL ys kk q (wrap32 xn)) (mv := lv) (by rw [HTW.out]) HLW.out (by have := HY.out; omega) HL8.out
end Go.Proofs.Ytgpekomaoeockaa.MemC
