/- The law's first loop: the rows of times are filled, small inequalities go by. -/
import Derived.Test.YthfkajolockcgaaAddsAW
import Derived.Deep.RegionHeld3
namespace Go.Proofs.Ythfkajolockcgaa.Adds
open Go.RowKit Go.Proofs.Ythfkajolockcgaa.QLinAdds Go.Proofs.YthfkajolockcgaaW.PrintWords Go.Proofs.YthfkajolockcgaaW.PrintLast Go.Proofs.YthfkajolockcgaaW.PrintMore Go.Proofs.Ythfkajolockcgaa.Open Go.Proofs.Ythfkajolockcgaa.Lin
set_option linter.unusedVariables false
def firstLoop : Code → Option Code
  | .loop c => some c
  | .seq a b => match firstLoop a with
    | some c => some c
    | none => firstLoop b
  | .block _ c => firstLoop c
  | .scope c => firstLoop c
  | .cond _ a b => match firstLoop a with
    | some c => some c
    | none => firstLoop b
  | _ => none
noncomputable def addsBody : Code := ((Try.f7.body.bind firstLoop).getD .skip)
def twice (t : List Int) : List Int := t.map fun x => 2 * x
def Past (l : List S27) (n i : Nat) : Prop := ∀ j (h : j < l.length), j < i → SmallR n (l[j].f0, l[j].f1)
theorem rd27_nat {l : List S27} {i : Nat} (h : i < l.length) : rd_T27 l (i : Int) = l[i] := by unfold rd_T27; simp [List.getD_eq_getElem?_getD, List.getElem?_eq_getElem h]
theorem C_int {w : World} {A : Option Addr} {l : List Int} {k : IntKind} (h : Kd.C (Kd.int k) w A l.length l) (i : Nat) (hi : i < l.length) : ∃ ad, A = some ad ∧ w.cell? (ad.add i) = some (.int k l[i]) := by
  obtain ⟨ad, e, hc⟩ := Kd.at_int h (i : Int) (by omega) (by omega)
  refine ⟨ad, e, ?_⟩
  rw [Int.toNat_natCast, rd_nat hi] at hc
  exact hc
theorem keepc {w w' : World} (hb : Below w.heap.size w w') {a : Addr} {v : Value} (h : w.cell? a = some v) : w'.cell? a = some v := (hb.cell (World.block_lt_of_cell? w _ h)).trans h
theorem step_append_ex {P : Program} {ops : Array Oper} {o : Oper} {a : Act} {Q : Exit → Act → World → Prop} {K : Act → World → Prop} {E : Prop} {W : World} {t : TypeId} {s x : Operand} {v u : Value} {R : Value → World → Prop} (hg : o.guard = none) (ho : o.op = .call { callee := .builtin .append, args := #[s, x], argTypes := #[t, t] }) (hs : a.eval s = v) (hx : a.eval x = u)
    (hr : ∃ r W1, (Builtin.append_ #[t, t] o.type #[v, u]).run P W = .ok r W1 ∧ R r W1) (hK : ∀ r W1, R r W1 → K (a.put o.dst r) W1) : if Region.wanted o (yielded ops a.tmps) = true then Oper.wp P o a W K Q else E := by
  obtain ⟨r, W1, h1, h2⟩ := hr
  have hw : Region.wanted o (yielded ops a.tmps) = true := by simp [Region.wanted, hg]
  rw [if_pos hw]
  unfold Oper.wp
  simp [execOp, ho, resolve, invoke, builtin, hs, hx, h1, Result.andThen]
  exact hK _ _ h2
theorem box_new1 (w : World) (a o : Obj) : ((w.alloc a).alloc o).heap[w.heap.size + 1]? = some o := by
  have h := heap_alloc_new (w.alloc a) o
  have e : (w.alloc a).heap.size = w.heap.size + 1 := by simp
  rw [e] at h
  exact h
theorem take_snoc {l : List Int} {i : Nat} (h : i < l.length) : l.take i ++ [l[i]] = l.take (i + 1) := (List.take_succ_eq_append_getElem h).symm
theorem twice_snoc (t : List Int) (x : Int) : twice t ++ [2 * x] = twice (t ++ [x]) := by simp [twice]
theorem Past.next {l : List S27} {n i : Nat} (h : Past l n i) (hi : i < l.length) (hs : SmallR n (l[i].f0, l[i].f1)) : Past l n (i + 1) := by
  intro j hj hlt
  rcases Nat.lt_or_ge j i with h1 | h1
  · exact h j hj h1
  · obtain rfl : j = i := by omega
    exact hs
set_option maxHeartbeats 16000000 in
set_option maxRecDepth 100000 in
theorem LinAdds.loop (A0 : Option Addr) (c0 : Nat) (l0 : List S27) (A1 : Option Addr) (c1 : Nat) (ti : List Int) (A2 : Option Addr) (c2 n : Nat) (mm : Int) (w : World) (gb : Nat) (K0 : Act → World → Prop) (hr0 : Kd.C k27 w A0 l0.length l0) (hr1 : Kd.C (Kd.int .u8) w A1 ti.length ti)
    (hti : ∀ t ∈ ti, 0 ≤ t ∧ t ≤ 255) (hln : ti.length ≤ 140737488351232) (hn9 : n ≤ 140737488351232) (h10 : l0.length ≤ 10) (hlt : l0.length ≤ ti.length)
    (u2 u3 u4 u11 u12 u13 u14 u15 u16 u17 u18 u19 u20 u21 u22 u23 u24 u25 u26 u27 u28 u29 u30 u31 u32 u33 u34 u35 u36 u118 u119 u120 u121 u122 u123 u124 u125 u126 u127 u128 u129 u130 u131 u132 u133 u134 u135 u136 u137 u138 u139 u140 u141 u142 u143 u144 u145 u146 u147 u148 u149 u150 u151 u152 u153 u154 u155 u156 u157 u158 u159 u160 u161 u162 u163 u164 u165 u166 u167 u168 u169 u170 u171 u172 u173 u174 u175 u176 u177 u178 u179 u180 u181 u182 u183 u184 u185 u186 u187 u188 u189 u190 u191 u192 u193 u194 u195 u196 u197 u198 u199 u200 u201 u202 u203 u204 u205 u206 u207 u208 u209 u210 u211 u212 u213 u214 u215 u216 u217 u218 u219 u220 u221 u222 u223 u224 u225 u226 u227 u228 u229 u230 u231 u232 u233 u234 u235 u236 : Value)
    (hexit : ∀ (u6 u9 u10 u37 u38 u39 u40 u41 u42 u43 u44 u45 u46 u47 u48 u49 u50 u51 u52 u53 u54 u55 u56 u57 u58 u59 u60 u61 u62 u63 u64 u65 u66 u67 u68 u69 u70 u71 u72 u73 u74 u75 u76 u77 u78 u79 u80 u81 u82 u83 u84 u85 u86 u87 u88 u89 u90 u91 u92 u93 u94 u95 u96 u97 u98 u99 u100 u101 u102 u103 u104 u105 u106 u107 u108 u109 u110 u111 u112 u113 u114 u115 u116 u117 vt' vu' : Value) (w' : World), Past l0 n l0.length → AW w w' gb A2 n c2 mm vt' vu' (ti.take l0.length) (twice (ti.take l0.length)) → K0 ⟨List.toArray (.slice A0 l0.length c0 :: .slice A1 ti.length c1 :: u2 :: u3 :: u4 :: .pointer (some ⟨gb, 0, none⟩) :: u6 :: vt' :: vu' :: u9 :: u10 :: u11 :: u12 :: u13 :: u14 :: u15 :: u16 :: u17 :: u18 :: u19 :: u20 :: u21 :: u22 :: u23 :: u24 :: u25 :: u26 :: u27 :: u28 :: u29 :: u30 :: u31 :: u32 :: u33 :: u34 :: u35 :: u36 :: u37 :: u38 :: u39 :: u40 :: u41 :: u42 :: u43 :: u44 :: u45 :: u46 :: u47 :: u48 :: u49 :: u50 :: u51 :: u52 :: u53 :: u54 :: u55 :: u56 :: u57 :: u58 :: u59 :: u60 :: u61 :: u62 :: u63 :: u64 :: u65 :: u66 :: u67 :: u68 :: u69 :: u70 :: u71 :: u72 :: u73 :: u74 :: u75 :: u76 :: u77 :: u78 :: u79 :: u80 :: u81 :: u82 :: u83 :: u84 :: u85 :: u86 :: u87 :: u88 :: u89 :: u90 :: u91 :: u92 :: u93 :: u94 :: u95 :: u96 :: u97 :: u98 :: u99 :: u100 :: u101 :: u102 :: u103 :: u104 :: u105 :: u106 :: u107 :: u108 :: u109 :: u110 :: u111 :: u112 :: u113 :: u114 :: u115 :: u116 :: u117 :: u118 :: u119 :: u120 :: u121 :: u122 :: u123 :: u124 :: u125 :: u126 :: u127 :: u128 :: u129 :: u130 :: u131 :: u132 :: u133 :: u134 :: u135 :: u136 :: u137 :: u138 :: u139 :: u140 :: u141 :: u142 :: u143 :: u144 :: u145 :: u146 :: u147 :: u148 :: u149 :: u150 :: u151 :: u152 :: u153 :: u154 :: u155 :: u156 :: u157 :: u158 :: u159 :: u160 :: u161 :: u162 :: u163 :: u164 :: u165 :: u166 :: u167 :: u168 :: u169 :: u170 :: u171 :: u172 :: u173 :: u174 :: u175 :: u176 :: u177 :: u178 :: u179 :: u180 :: u181 :: u182 :: u183 :: u184 :: u185 :: u186 :: u187 :: u188 :: u189 :: u190 :: u191 :: u192 :: u193 :: u194 :: u195 :: u196 :: u197 :: u198 :: u199 :: u200 :: u201 :: u202 :: u203 :: u204 :: u205 :: u206 :: u207 :: u208 :: u209 :: u210 :: u211 :: u212 :: u213 :: u214 :: u215 :: u216 :: u217 :: u218 :: u219 :: u220 :: u221 :: u222 :: u223 :: u224 :: u225 :: u226 :: u227 :: u228 :: u229 :: u230 :: u231 :: u232 :: u233 :: u234 :: u235 :: u236 :: []), []⟩ w')
    (u6 u10 u37 u38 u39 u40 u41 u42 u43 u44 u45 u46 u47 u48 u49 u50 u51 u52 u53 u54 u55 u56 u57 u58 u59 u60 u61 u62 u63 u64 u65 u66 u67 u68 u69 u70 u71 u72 u73 u74 u75 u76 u77 u78 u79 u80 u81 u82 u83 u84 u85 u86 u87 u88 u89 u90 u91 u92 u93 u94 u95 u96 u97 u98 u99 u100 u101 u102 u103 u104 u105 u106 u107 u108 u109 u110 u111 u112 u113 u114 u115 u116 u117 : Value) (w2 : World) (vt vu : Value) (i : Nat) (hi : i = 0) (hL : AW w w2 gb A2 n c2 mm vt vu [] []) :
    Code.wp Try.prog (Code.loop addsBody) (Exit.inBlock 0 (Exit.then K0 (bodyPost Try.prog Try.f7 (fun e w' => e = .returned (.bool true) ∧ Below w.heap.size w w')))) ⟨List.toArray (.slice A0 l0.length c0 :: .slice A1 ti.length c1 :: u2 :: u3 :: u4 :: .pointer (some ⟨gb, 0, none⟩) :: u6 :: vt :: vu :: .int .i64 (i : Int) :: u10 :: u11 :: u12 :: u13 :: u14 :: u15 :: u16 :: u17 :: u18 :: u19 :: u20 :: u21 :: u22 :: u23 :: u24 :: u25 :: u26 :: u27 :: u28 :: u29 :: u30 :: u31 :: u32 :: u33 :: u34 :: u35 :: u36 :: u37 :: u38 :: u39 :: u40 :: u41 :: u42 :: u43 :: u44 :: u45 :: u46 :: u47 :: u48 :: u49 :: u50 :: u51 :: u52 :: u53 :: u54 :: u55 :: u56 :: u57 :: u58 :: u59 :: u60 :: u61 :: u62 :: u63 :: u64 :: u65 :: u66 :: u67 :: u68 :: u69 :: u70 :: u71 :: u72 :: u73 :: u74 :: u75 :: u76 :: u77 :: u78 :: u79 :: u80 :: u81 :: u82 :: u83 :: u84 :: u85 :: u86 :: u87 :: u88 :: u89 :: u90 :: u91 :: u92 :: u93 :: u94 :: u95 :: u96 :: u97 :: u98 :: u99 :: u100 :: u101 :: u102 :: u103 :: u104 :: u105 :: u106 :: u107 :: u108 :: u109 :: u110 :: u111 :: u112 :: u113 :: u114 :: u115 :: u116 :: u117 :: u118 :: u119 :: u120 :: u121 :: u122 :: u123 :: u124 :: u125 :: u126 :: u127 :: u128 :: u129 :: u130 :: u131 :: u132 :: u133 :: u134 :: u135 :: u136 :: u137 :: u138 :: u139 :: u140 :: u141 :: u142 :: u143 :: u144 :: u145 :: u146 :: u147 :: u148 :: u149 :: u150 :: u151 :: u152 :: u153 :: u154 :: u155 :: u156 :: u157 :: u158 :: u159 :: u160 :: u161 :: u162 :: u163 :: u164 :: u165 :: u166 :: u167 :: u168 :: u169 :: u170 :: u171 :: u172 :: u173 :: u174 :: u175 :: u176 :: u177 :: u178 :: u179 :: u180 :: u181 :: u182 :: u183 :: u184 :: u185 :: u186 :: u187 :: u188 :: u189 :: u190 :: u191 :: u192 :: u193 :: u194 :: u195 :: u196 :: u197 :: u198 :: u199 :: u200 :: u201 :: u202 :: u203 :: u204 :: u205 :: u206 :: u207 :: u208 :: u209 :: u210 :: u211 :: u212 :: u213 :: u214 :: u215 :: u216 :: u217 :: u218 :: u219 :: u220 :: u221 :: u222 :: u223 :: u224 :: u225 :: u226 :: u227 :: u228 :: u229 :: u230 :: u231 :: u232 :: u233 :: u234 :: u235 :: u236 :: []), []⟩ w2 := by
  subst hi
  conv => arg 2; arg 1; whnf
  have HAW := Aside0.mk (fun w => plimsolllaw14_awake.calls 40 true w (awake_ok 40 (Nat.le_refl _)))
  have HR0 := Aside0.mk hr0
  have HR1 := Aside0.mk hr1
  have HTI := Aside0.mk hti
  have HE := Aside0.mk hexit
  have L0 := Aside0.mk hL
  have HLT := Aside0.mk hlt
  clear hr0 hr1 hti hexit hL
  go_loopg [7, 8, 9] (l0.length + 1) (fun kq v7 v8 v9 w' => ∃ (i : Nat), v9 = .int .i64 (i : Int) ∧ Aside0 (i ≤ l0.length) ∧ Aside0 (i + kq = l0.length + 1) ∧ Aside0 (Past l0 n i) ∧ Aside0 (AW w w' gb A2 n c2 mm v7 v8 (ti.take i) (twice (ti.take i))))
  case atStart => exact ⟨0, rfl, ⟨Nat.zero_le _⟩, ⟨by omega⟩, ⟨fun j h hj => by omega⟩, L0⟩
  case round =>
    clear L0
    obtain ⟨i, rfl, HI, HQ, HPA, HL⟩ := hrel
    cases gk with
    | zero => exact absurd HI.out (by have := HQ.out; omega)
    | succ k1 =>
      by_cases hi : i < l0.length
      · obtain ⟨ad, A', c', rfl, hx0, hx1, hlc, hC⟩ := at_T27 HR0.out (i : Int) (by omega) (by omega)
        simp only [Int.toNat_natCast] at hx0 hx1
        rw [rd27_nat hi] at hx0 hx1 hlc hC
        obtain ⟨row, hrow⟩ : ∃ row, l0[i] = row := ⟨_, rfl⟩
        rw [hrow] at hx0 hx1 hlc hC
        have HX0 := Aside0.mk hx0
        have HX1 := Aside0.mk hx1
        have HCR := Aside0.mk hC
        have hm0 := (blk_cell HL.out.bx 0).trans rfl
        have hy0 := keepc HL.out.bel hx0
        have hy1 := keepc HL.out.bel hx1
        have z1 : (0 ≤ (i : Int)) = True := eq_true (by omega)
        have z2 : ((i : Int) < (l0.length : Int)) = True := eq_true (by omega)
        have hi9 : (i : Int) ≤ 10 := by omega
        have HII := Aside0.mk hi
        have HROW := Aside0.mk hrow
        obtain ⟨len, hlen⟩ : ∃ len, row.f0.length = len := ⟨_, rfl⟩
        obtain ⟨mo, hmo⟩ : ∃ mo, row.f1 = mo := ⟨_, rfl⟩
        rw [hlen] at hy0
        rw [hmo] at hy1
        have HLEN := Aside0.mk hlen
        have HMO := Aside0.mk hmo
        have hcs : Aside0 (((len != n) = true ∧ ((len : Int) != (n : Int)) = true) ∨ ((len != n) = false ∧ ((len : Int) != (n : Int)) = false ∧ decide (1099511627776 < mo) = true) ∨ ((len != n) = false ∧ ((len : Int) != (n : Int)) = false ∧ decide (1099511627776 < mo) = false ∧ decide (mo < -1099511627776) = true)
          ∨ ((len != n) = false ∧ ((len : Int) != (n : Int)) = false ∧ decide (1099511627776 < mo) = false ∧ decide (mo < -1099511627776) = false ∧ len = n)) := ⟨by
          by_cases h1 : len = n
          · subst h1
            by_cases h2 : 1099511627776 < mo
            · exact .inr (.inl ⟨by simp, by simp, decide_eq_true h2⟩)
            · by_cases h3 : mo < -1099511627776
              · exact .inr (.inr (.inl ⟨by simp, by simp, decide_eq_false h2, decide_eq_true h3⟩))
              · exact .inr (.inr (.inr ⟨by simp, by simp, decide_eq_false h2, decide_eq_false h3, rfl⟩))
          · exact .inl ⟨bne_iff_ne.mpr h1, bne_iff_ne.mpr (by omega)⟩⟩
        clear hx0 hx1 hlc hC hrow hlen hmo
        rcases hcs.out with ⟨e1, e2⟩ | ⟨e1, e2, e3⟩ | ⟨e1, e2, e3, e4⟩ | ⟨e1, e2, e3, e4, e5⟩
        iterate 3
          · clear hcs
            go_wp2_with fail
            go_quiet (fail)
            go_wp2_with fail
            refine (HAW.out _).mono ?_
            rintro e w3 ⟨rfl, hb3⟩
            have HB3 := Aside0.mk ((HL.out.drewN _).below hb3).bel
            clear hb3
            go_wp2
            go_ret
            exact ⟨rfl, HB3.out⟩
        · clear hcs
          go_wp2_with fail
          go_quiet (fail)
          have HL2 := Aside0.mk (HL.out.drewN nq)
          clear hm0 hy0 hy1 e1 e2
          generalize wr.drewN nq = w3 at *
          have E3 := Aside0.mk (of_decide_eq_false e3)
          have E4 := Aside0.mk (of_decide_eq_false e4)
          have E5 := Aside0.mk e5
          clear e3 e4 e5
          go_wp2_with fail
          go_loopg [10] (len + 1) (fun kq v10 w' => ∃ (k : Nat), v10 = .int .i64 (k : Int) ∧ Aside0 (k ≤ len) ∧ Aside0 (k + kq = len + 1) ∧ Aside0 (∀ j (h : j < row.f0.length), j < k → -1099511627776 ≤ row.f0[j] ∧ row.f0[j] ≤ 1099511627776) ∧ Aside0 (AW w w' gb A2 n c2 mm u7 u8 (ti.take i) (twice (ti.take i))))
          case atStart => exact ⟨0, rfl, ⟨Nat.zero_le _⟩, ⟨by omega⟩, ⟨fun j h hj => by omega⟩, HL2⟩
          case round =>
            clear HL2 HL
            obtain ⟨k, rfl, HK, HKQ, HCF, HL⟩ := hrel
            have hy0 := keepc HL.out.bel HX0.out
            rw [HLEN.out] at hy0
            have hn50 : (len : Int) ≤ 140737488351232 := by have := E5.out; omega
            cases gk with
            | zero => exact absurd HK.out (by have := HKQ.out; omega)
            | succ k2 =>
              by_cases hk : k < len
              · have hkl : k < row.f0.length := by rw [HLEN.out]; exact hk
                obtain ⟨ad2, rfl, hce⟩ := C_int HCR.out k hkl
                have hce2 := keepc HL.out.bel hce
                obtain ⟨cc, hcc⟩ : ∃ cc, row.f0[k] = cc := ⟨_, rfl⟩
                rw [hcc] at hce2
                have HCC := Aside0.mk hcc
                have HKK := Aside0.mk hk
                have y1 : (0 ≤ (k : Int)) = True := eq_true (by omega)
                have y2 : ((k : Int) < (len : Int)) = True := eq_true (by omega)
                clear hce hcc
                have hcs : Aside0 ((decide (1099511627776 < cc) = true) ∨ (decide (1099511627776 < cc) = false ∧ decide (cc < -1099511627776) = true) ∨ (decide (1099511627776 < cc) = false ∧ decide (cc < -1099511627776) = false)) := ⟨by
                  by_cases h2 : 1099511627776 < cc
                  · exact .inl (decide_eq_true h2)
                  · by_cases h3 : cc < -1099511627776
                    · exact .inr (.inl ⟨decide_eq_false h2, decide_eq_true h3⟩)
                    · exact .inr (.inr ⟨decide_eq_false h2, decide_eq_false h3⟩)⟩
                rcases hcs.out with e3 | ⟨e3, e4⟩ | ⟨e3, e4⟩
                iterate 2
                  · clear hcs
                    go_wp2_with fail
                    refine (HAW.out _).mono ?_
                    rintro e w4 ⟨rfl, hb3⟩
                    have HB3 := Aside0.mk (HL.out.below hb3).bel
                    clear hb3
                    go_wp2
                    go_ret
                    exact ⟨rfl, HB3.out⟩
                · clear hcs
                  have HCN := Aside0.mk (show ∀ j (h : j < row.f0.length), j < k + 1 → -1099511627776 ≤ row.f0[j] ∧ row.f0[j] ≤ 1099511627776 from fun j h hj => by
                    rcases Nat.lt_or_ge j k with h1 | h1
                    · exact HCF.out j h h1
                    · obtain rfl : j = k := by omega
                      rw [HCC.out]
                      have h2 := of_decide_eq_false e3
                      have h3 := of_decide_eq_false e4
                      omega)
                  have hk9 : (k : Int) ≤ 140737488351232 := by omega
                  go_wp2_with fail
                  go_roundg k2
                  case measure => have := HKQ.out; omega
                  case rel => exact ⟨k + 1, by go_num, ⟨HKK.out⟩, ⟨by have := HKQ.out; omega⟩, HCN, HL⟩
              · have hke : k = len := by have := HK.out; omega
                subst hke
                clear hk HK HKQ
                have HSM := Aside0.mk (show SmallR n (row.f0, row.f1) from ⟨HLEN.out.trans E5.out, fun c hc => by obtain ⟨j, hj, rfl⟩ := List.mem_iff_getElem.1 hc; exact HCF.out j hj (by rw [← HLEN.out]; exact hj), by have := E4.out; rw [HMO.out]; show _ ≤ mo; omega, by have := E3.out; rw [HMO.out]; show mo ≤ _; omega⟩)
                have hti : i < ti.length := by have := HLT.out; omega
                obtain ⟨ad1, rfl, ht⟩ := C_int HR1.out i hti
                have ht2 := keepc HL.out.bel ht
                obtain ⟨x, hx⟩ : ∃ x, ti[i] = x := ⟨_, rfl⟩
                rw [hx] at ht2
                have hxb := HTI.out x (by rw [← hx]; exact List.getElem_mem hti)
                have HXX := Aside0.mk hx
                have HXT := Aside0.mk (show w.cell? (ad1.add i) = some (.int .u8 x) by rw [← hx]; exact ht)
                have hl1 := Aside0.mk (show (ti.take i).length ≤ 1000 by rw [List.length_take]; omega)
                have hl2 := Aside0.mk (show (twice (ti.take i)).length ≤ 1000 by rw [twice, List.length_map, List.length_take]; omega)
                clear ht hx
                have z3 : ((i : Int) < (ti.length : Int)) = True := eq_true (by omega)
                obtain ⟨xb1, xb2⟩ := hxb
                have NT : ∀ k, wr.heap.size ≤ k → some k ≠ u7.ownBlock := fun k hk e => by have := own_lt HL.out.ot k e.symm; omega
                have NU : ∀ k, wr.heap.size ≤ k → some k ≠ u8.ownBlock := fun k hk e => by have := own_lt HL.out.ou k e.symm; omega
                have HNT := Aside0.mk NT
                have HNU := Aside0.mk NU
                have hx2 : 2 * x ≤ 510 := by omega
                have hx3 : 0 ≤ 2 * x := by omega
                have w1 : IntKind.i64.wrap x = x := by rw [i64_w]; unfold wrap64; omega
                have w2 : IntKind.i64.wrap (2 * x) = 2 * x := by clear w1; rw [i64_w]; unfold wrap64; omega
                clear NT NU
                go_wp2_with fail
                go_region_held3 (fun w' => w'.cell? (ad1.add i) = some (.int .u8 x)) (first | go_keep | exact keepc HT.out.bel HXT.out | exact keepc HU.out.bel HXT.out) (first | (refine step_append_ex (by rfl) (by rfl) (by rfl) (by rfl) (AW.app (vt := u7) (by repeat (first | exact HL.out | exact HT.out | exact HU.out.swap | apply AW.alloc | apply AW.drew)) hl1.out _ _ x (by first | exact heap_alloc_new _ _ | exact blk_alloc (heap_alloc_new _ _) _ | exact box_new1 _ _ _ | (refine blk_grown ?_ HGT.out (HNT.out _ (by simp)); first | exact blk_alloc (heap_alloc_new _ _) _ | exact box_new1 _ _ _) | (refine blk_grown ?_ HGU.out (HNU.out _ (by simp)); first | exact blk_alloc (heap_alloc_new _ _) _ | exact box_new1 _ _ _))) ?_; intro r1 W1 hR1; have HT := Aside0.mk hR1.1; have HGT := Aside0.mk hR1.2.1; clear hR1) | (refine step_append_ex (by rfl) (by rfl) (by rfl) (by rfl) (AW.app (vt := u8) (by repeat (first | exact HL.out.swap | exact HU.out | exact HT.out.swap | apply AW.alloc | apply AW.drew)) hl2.out _ _ (2 * x) (by first | exact heap_alloc_new _ _ | exact blk_alloc (heap_alloc_new _ _) _ | exact box_new1 _ _ _ | (refine blk_grown ?_ HGT.out (HNT.out _ (by simp)); first | exact blk_alloc (heap_alloc_new _ _) _ | exact box_new1 _ _ _) | (refine blk_grown ?_ HGU.out (HNU.out _ (by simp)); first | exact blk_alloc (heap_alloc_new _ _) _ | exact box_new1 _ _ _))) ?_; intro r2 W2 hR2; have HU := Aside0.mk hR2.1; have HGU := Aside0.mk hR2.2.1; clear hR2))
                all_goals
                  first
                    | have HF0 := (show AW w _ gb A2 n c2 mm r1 r2 (ti.take i ++ [x]) (twice (ti.take i) ++ [2 * x]) from HU.out.swap)
                    | have HF0 := (show AW w _ gb A2 n c2 mm r1 r2 (ti.take i ++ [x]) (twice (ti.take i) ++ [2 * x]) from HT.out)
                  rw [twice_snoc, ← HXX.out, take_snoc hti] at HF0
                  have HF := Aside0.mk HF0
                  have HPN := Aside0.mk (HPA.out.next HII.out (by rw [HROW.out]; exact HSM.out))
                  clear HF0 HT HU HGT HGU HL w1 w2 ht2 hy0
                  go_wp2_with fail
                  go_roundg k1
                  case measure => have := HQ.out; omega
                  case rel => exact ⟨i + 1, by go_num, ⟨HII.out⟩, ⟨by have := HQ.out; omega⟩, HPN, HF⟩
      · have hie : i = l0.length := by have := HI.out; omega
        subst hie
        clear hi
        go_wp2_with fail
        exact HE.out _ _ _ _ _ _ _ _ _ _ _ _ _ _ _ _ _ _ _ _ _ _ _ _ _ _ _ _ _ _ _ _ _ _ _ _ _ _ _ _ _ _ _ _ _ _ _ _ _ _ _ _ _ _ _ _ _ _ _ _ _ _ _ _ _ _ _ _ _ _ _ _ _ _ _ _ _ _ _ _ _ _ _ _ _ _ _ HPA.out HL.out
end Go.Proofs.Ythfkajolockcgaa.Adds
