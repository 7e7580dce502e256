/- What the reference's step computes. -/
import Derived.Test.YtoiahldbahdaoaaFlowFR
namespace Go.Proofs.Ytoiahldbahdaoaa.Flow
open Go.RowKit Go.Proofs.Ytoiahldbahdaoaa.QFlowSteps Go.Proofs.YtoiahldbahdaoaaW.PrintWords Go.Proofs.YtoiahldbahdaoaaW.PrintLast Go.Proofs.Ytoiahldbahdaoaa.Chain
set_option linter.unusedVariables false
set_option linter.unusedSimpArgs false
def firstLoop : Code → Option Code
  | .loop c => some c
  | .seq a b => match firstLoop a with
    | some c => some c
    | none => firstLoop b
  | .block _ c => firstLoop c
  | .scope c => firstLoop c
  | .cond _ a b => match firstLoop a with
    | some c => some c
    | none => firstLoop b
  | _ => none
noncomputable def rbody : Code := ((Try.f10.body.bind firstLoop).getD .skip)
set_option maxHeartbeats 16000000 in
set_option maxRecDepth 100000 in
theorem rloop (op A B : Int) (m : Im) (pb qb : Nat) (A0 A1 A3 A2 A4 : Option Addr) (c0 c1 c2 c3 c4 : Nat) (As Ai : Option Addr) (cs ci : Nat) (st I : List S38) (L : Nat) (K0 : Act → World → Prop) (R0 : Ending → World → Prop) (w9 : World) (u12 u14 : Value)
    (hX : w9.heap[pb]? = some (.cells #[.slice A0 m.c.length c0, .slice A1 m.s.length c1, .slice A2 m.n.length c2, .slice A3 m.m.length c3, .slice A4 m.e.length c4, .int .i64 m.sk, .int .i64 m.hp] 28 (0, 0))) (hY : w9.heap[qb]? = some (.cells #[.int .i64 op, .int .i64 A, .int .i64 B] 44 (0, 0)))
    (hT : Kd.C k38 w9 As st.length st) (hI : Kd.C k38 w9 Ai I.length I) (hC : Kd.C k80 w9 A0 m.c.length m.c) (hcc : m.c.length ≤ c0) (hc8 : m.c.length ≤ 8) (hsl : st.length ≤ 1000) (hLI1 : L + I.length ≤ st.length) (hLI2 : st.length ≤ L + I.length) (hI8 : I.length ≤ 8)
    (hret : ∀ w', Below w9.heap.size w9 w' → fitAll m.c op (st.drop L) I = false → R0 (.returned (.tuple #[.slice none 0 0, .slice none 0 0, .int .i64 4])) w')
    (hexit : ∀ (y0 y1 y2 y4 y5 y6 y7 y8 y9 y10 y11 y13 y15 y17 y18 y19 y20 y21 y22 y23 y24 y25 y26 y27 y28 y29 y30 y31 y32 y33 y34 y35 y36 y37 y38 y39 y40 y41 y42 y43 y44 y45 y46 y47 y48 y49 y50 y51 y52 y53 y54 y55 y56 y57 y58 y59 y60 y61 y62 y63 y64 y65 y66 y67 y68 y69 y70 y71 y72 y73 y74 y75 y76 y77 y78 y79 y80 y81 y82 y83 y84 y85 y86 y87 y88 y89 y90 y91 y92 y93 y94 y95 y96 y97 y98 y99 y100 y101 y102 y103 y104 y105 y106 y107 y108 y109 y110 y111 y112 y113 y114 y115 y116 y117 y118 y119 y120 y121 y122 y123 y124 y125 y126 y127 y128 y129 y130 y131 y132 y133 y134 y135 y136 y137 y138 y139 y140 y141 y142 y143 y144 y145 y146 y147 y148 y149 y150 y151 y152 y153 y154 y155 y156 y157 y158 y159 y160 y161 y162 y163 y164 y165 y166 y167 y168 y169 y170 y171 y172 y173 y174 y175 y176 y177 y178 y179 y180 y181 y182 y183 y184 y185 y186 y187 y188 y189 y190 y191 y192 y193 y194 y195 : Value) (w' : World), Below w9.heap.size w9 w' → fitAll m.c op (st.drop L) I = true → K0 ⟨List.toArray (y0 :: y1 :: y2 :: .slice As st.length cs :: y4 :: y5 :: y6 :: y7 :: y8 :: y9 :: y10 :: y11 :: u12 :: y13 :: u14 :: y15 :: .int .i64 (L : Int) :: y17 :: y18 :: y19 :: y20 :: y21 :: y22 :: y23 :: y24 :: y25 :: y26 :: y27 :: y28 :: y29 :: y30 :: y31 :: y32 :: y33 :: y34 :: y35 :: y36 :: y37 :: y38 :: y39 :: y40 :: y41 :: y42 :: y43 :: y44 :: y45 :: y46 :: y47 :: y48 :: y49 :: y50 :: y51 :: y52 :: y53 :: y54 :: y55 :: y56 :: y57 :: y58 :: y59 :: y60 :: y61 :: y62 :: y63 :: y64 :: y65 :: y66 :: y67 :: y68 :: y69 :: y70 :: y71 :: y72 :: y73 :: y74 :: y75 :: y76 :: y77 :: y78 :: y79 :: y80 :: y81 :: y82 :: y83 :: y84 :: y85 :: y86 :: y87 :: y88 :: y89 :: y90 :: y91 :: y92 :: y93 :: y94 :: y95 :: y96 :: y97 :: y98 :: y99 :: y100 :: y101 :: y102 :: y103 :: y104 :: y105 :: y106 :: y107 :: y108 :: y109 :: y110 :: y111 :: y112 :: y113 :: y114 :: y115 :: y116 :: y117 :: y118 :: y119 :: y120 :: y121 :: y122 :: y123 :: y124 :: y125 :: y126 :: y127 :: y128 :: y129 :: y130 :: y131 :: y132 :: y133 :: y134 :: y135 :: y136 :: y137 :: y138 :: y139 :: y140 :: y141 :: y142 :: y143 :: y144 :: y145 :: y146 :: y147 :: y148 :: y149 :: y150 :: y151 :: y152 :: y153 :: y154 :: y155 :: y156 :: y157 :: y158 :: y159 :: y160 :: y161 :: y162 :: y163 :: y164 :: y165 :: y166 :: y167 :: y168 :: y169 :: y170 :: y171 :: y172 :: y173 :: y174 :: y175 :: y176 :: y177 :: y178 :: y179 :: y180 :: y181 :: y182 :: y183 :: y184 :: y185 :: y186 :: y187 :: y188 :: y189 :: y190 :: y191 :: y192 :: y193 :: y194 :: y195 :: []), []⟩ w') (u0 u1 u2 u5 u6 u7 u8 u9 u10 u15 u18 u19 u20 u21 u22 u23 u24 u25 u26 u27 u28 u29 u30 u31 u32 u33 u34 u35 u36 u37 u38 u39 u40 u41 u42 u43 u44 u45 u46 u47 u48 u49 u50 u51 u52 u53 u54 u55 u56 u57 u58 u59 u60 u61 u62 u63 u64 u65 u66 u67 u68 u69 u70 u71 u72 u73 u74 u75 u76 u77 u78 u79 u80 u81 u82 u83 u84 u85 u86 u87 u88 u89 u90 u91 u92 u93 u94 u95 u96 u97 u98 u99 u100 u101 u102 u103 u104 u105 u106 u107 u108 u109 u110 u111 u112 u113 u114 u115 u116 u117 u118 u119 u120 u121 u122 u123 u124 u125 u126 u127 u128 u129 u130 u131 u132 u133 u134 u135 u136 u137 u138 u139 u140 u141 u142 u143 u144 u145 u146 u147 u148 u149 u150 u151 u152 u153 u154 u155 u156 u157 u158 u159 u160 u161 u162 u163 u164 u165 u166 u167 u168 u169 u170 u171 u172 u173 u174 u175 u176 u177 u178 u179 u180 u181 u182 u183 u184 u185 u186 u187 u188 u189 u190 u191 u192 u193 u194 u195 : Value) :
    Code.wp Try.prog (Code.loop rbody) (Exit.inBlock 0 (Exit.then K0 (bodyPost Try.prog Try.f10 R0))) ⟨List.toArray (u0 :: u1 :: u2 :: .slice As st.length cs :: .pointer (some ⟨pb, 0, none⟩) :: u5 :: u6 :: u7 :: u8 :: u9 :: u10 :: .pointer (some ⟨qb, 0, none⟩) :: u12 :: .slice Ai I.length ci :: u14 :: u15 :: .int .i64 (L : Int) :: .int .i64 0 :: u18 :: u19 :: u20 :: u21 :: u22 :: u23 :: u24 :: u25 :: u26 :: u27 :: u28 :: u29 :: u30 :: u31 :: u32 :: u33 :: u34 :: u35 :: u36 :: u37 :: u38 :: u39 :: u40 :: u41 :: u42 :: u43 :: u44 :: u45 :: u46 :: u47 :: u48 :: u49 :: u50 :: u51 :: u52 :: u53 :: u54 :: u55 :: u56 :: u57 :: u58 :: u59 :: u60 :: u61 :: u62 :: u63 :: u64 :: u65 :: u66 :: u67 :: u68 :: u69 :: u70 :: u71 :: u72 :: u73 :: u74 :: u75 :: u76 :: u77 :: u78 :: u79 :: u80 :: u81 :: u82 :: u83 :: u84 :: u85 :: u86 :: u87 :: u88 :: u89 :: u90 :: u91 :: u92 :: u93 :: u94 :: u95 :: u96 :: u97 :: u98 :: u99 :: u100 :: u101 :: u102 :: u103 :: u104 :: u105 :: u106 :: u107 :: u108 :: u109 :: u110 :: u111 :: u112 :: u113 :: u114 :: u115 :: u116 :: u117 :: u118 :: u119 :: u120 :: u121 :: u122 :: u123 :: u124 :: u125 :: u126 :: u127 :: u128 :: u129 :: u130 :: u131 :: u132 :: u133 :: u134 :: u135 :: u136 :: u137 :: u138 :: u139 :: u140 :: u141 :: u142 :: u143 :: u144 :: u145 :: u146 :: u147 :: u148 :: u149 :: u150 :: u151 :: u152 :: u153 :: u154 :: u155 :: u156 :: u157 :: u158 :: u159 :: u160 :: u161 :: u162 :: u163 :: u164 :: u165 :: u166 :: u167 :: u168 :: u169 :: u170 :: u171 :: u172 :: u173 :: u174 :: u175 :: u176 :: u177 :: u178 :: u179 :: u180 :: u181 :: u182 :: u183 :: u184 :: u185 :: u186 :: u187 :: u188 :: u189 :: u190 :: u191 :: u192 :: u193 :: u194 :: u195 :: []), []⟩ w9 := by
  conv => arg 2; arg 1; whnf
  have HX9 := Aside0.mk hX
  have HI9 := Aside0.mk hY
  have HT := Aside0.mk hT
  have HCi9 := Aside0.mk hI
  have HCL := Aside0.mk hC
  have HRET := Aside0.mk hret
  have HE := Aside0.mk hexit
  clear hX hY hT hI hC hret hexit
  go_loopg [17] (I.length + 1) (fun kq v17 w' => ∃ k : Nat, v17 = .int .i64 (k : Int) ∧ Aside0 (k ≤ I.length) ∧ Aside0 (k + kq = I.length + 1) ∧ Aside0 (∀ j (h : j < I.length) (h' : L + j < st.length), j < k → fitsV m.c op st[L + j] I[j] = true) ∧ Aside0 (Below w9.heap.size w9 w'))
  case atStart => exact ⟨0, rfl, ⟨Nat.zero_le _⟩, ⟨by omega⟩, ⟨fun j _ _ hj => by omega⟩, ⟨Below.refl _ _⟩⟩
  case round =>
    obtain ⟨k, rfl, HK, HKQ, HP, HL⟩ := hrel
    have hbw : Below w9.heap.size w9 wr := HL.out
    have HXW := Aside0.mk (blk_below HX9.out HL.out)
    have HIW := Aside0.mk (blk_below HI9.out HL.out)
    cases gk with
    | zero => exact absurd HK.out (by have := HKQ.out; omega)
    | succ k1 =>
      by_cases hk : k < I.length
      · obtain ⟨ad, hAi, q0, q1⟩ := at_T38 (Kd.C_below HCi9.out HL.out) (k : Int) (by omega) (by omega)
        subst hAi
        simp only [Int.toNat_natCast] at q0 q1
        rw [tt hk] at q0 q1
        have hls : L + k < st.length := by omega
        obtain ⟨asd, hAs, s0, s1⟩ := at_T38 (Kd.C_below HT.out hbw) ((L : Int) + (k : Int)) (by omega) (by omega)
        subst hAs
        have hsn : ((L : Int) + (k : Int)).toNat = L + k := by omega
        rw [hsn, show (L : Int) + (k : Int) = ((L + k : Nat) : Int) by omega, tt hls] at s0 s1
        clear hsn
        obtain ⟨n, hn⟩ : ∃ n, n = L + k := ⟨_, rfl⟩
        have e4 : IntKind.i64.wrap ((L : Int) + (k : Int)) = (n : Int) := by rw [hn]; exact IntWalk.i64_in _ (by omega)
        simp only [← hn] at s0 s1 hls
        obtain ⟨p, hp⟩ : ∃ p, fitsV m.c op st[n] I[k] = p := ⟨_, rfl⟩
        have HPP := Aside0.mk hp
        clear hp
        obtain ⟨⟨h0, h1⟩, hh⟩ : ∃ x, st[n] = x := ⟨_, rfl⟩
        obtain ⟨⟨t0, t1⟩, ht⟩ : ∃ x, I[k] = x := ⟨_, rfl⟩
        rw [hh] at s0 s1
        rw [ht] at q0 q1
        dsimp only at s0 s1 q0 q1
        have HPQ := Aside0.mk (show fitsV m.c op ⟨h0, h1⟩ ⟨t0, t1⟩ = p from by rw [← hh, ← ht]; exact HPP.out)
        clear hh ht
        have HN := Aside0.mk hn
        clear hn
        have e1 : (n : Int) < (st.length : Int) := by omega
        have e2 : (k : Int) < (I.length : Int) := by omega
        go_wp2_with fail
        refine see (F := fun w0_ => Below wr.heap.size wr w0_ ∧ w0_.cell? (asd.add (n * 2)) = some (.int .i64 h0) ∧ w0_.cell? ⟨(asd.add (n * 2)).block, (asd.add (n * 2)).off + 1, none⟩ = some (.int .i64 h1) ∧ w0_.cell? (ad.add (k * 2)) = some (.int .i64 t0) ∧ w0_.cell? ⟨(ad.add (k * 2)).block, (ad.add (k * 2)).off + 1, none⟩ = some (.int .i64 t1)) _ ⟨bel, s0, s1, q0, q1⟩ ?_
        rintro w10 ⟨hb10_, hq1_, hq2_, hq3_, hq4_⟩
        replace hb10_ := Aside0.mk hb10_
        replace hq1_ := Aside0.mk hq1_
        replace hq2_ := Aside0.mk hq2_
        replace hq3_ := Aside0.mk hq3_
        replace hq4_ := Aside0.mk hq4_
        have x0_10 := keepc hb10_.out ((blk_cell HXW.out 0).trans rfl)
        have x1_10 := keepc hb10_.out ((blk_cell HIW.out 0).trans rfl)
        have z0_10 := World.block_lt_of_cell? w10 _ x0_10
        have z1_10 := World.block_lt_of_cell? w10 _ x1_10
        have z0_11 : pb < w10.heap.size + 1 := Nat.lt_succ_of_lt z0_10
        have z1_11 : qb < w10.heap.size + 1 := Nat.lt_succ_of_lt z1_10
        have KP := Aside0.mk (show ∀ w', Below w10.heap.size w10 w' → (w'.cell? (asd.add (n * 2)) = some (.int .i64 h0) ∧ w'.cell? ⟨(asd.add (n * 2)).block, (asd.add (n * 2)).off + 1, none⟩ = some (.int .i64 h1) ∧ w'.cell? (ad.add (k * 2)) = some (.int .i64 t0) ∧ w'.cell? ⟨(ad.add (k * 2)).block, (ad.add (k * 2)).off + 1, none⟩ = some (.int .i64 t1)) from fun w' h => ⟨keepc h hq1_.out, keepc h hq2_.out, keepc h hq3_.out, keepc h hq4_.out⟩)
        refine wp_region_noPanic ?_
        refine wp_region_held_drew (S := fun w' => w'.cell? (asd.add (n * 2)) = some (.int .i64 h0) ∧ w'.cell? ⟨(asd.add (n * 2)).block, (asd.add (n * 2)).off + 1, none⟩ = some (.int .i64 h1) ∧ w'.cell? (ad.add (k * 2)) = some (.int .i64 t0) ∧ w'.cell? ⟨(ad.add (k * 2)).block, (ad.add (k * 2)).off + 1, none⟩ = some (.int .i64 t1)) (by kernel_rfl) (by ((try dsimp only); first | exact KP.out _ (by assumption) | exact KP.out _ (Below.drew (Below.refl _ _)) | exact KP.out _ (below_alloc (by assumption) _) | exact KP.out _ (below_alloc (Below.refl _ _) _) | exact KP.out _ (below_alloc (below_alloc (Below.refl _ _) _) _) | exact KP.out _ (below_drew (below_alloc (Below.refl _ _) _)) | exact KP.out _ (below_drew (below_alloc (below_alloc (Below.refl _ _) _) _)) | exact KP.out _ (below_drew (below_alloc (by assumption) _)))) (fun hHeld => ?_)
        refine wpAnyH_take (i := 0) (oi := _) (v := ?v1) rfl (by kernel_rfl) (by kernel_rfl) (by kernel_rfl) (fun _ _ _ h => h) (Or.inl ⟨by rfl, ?hy1⟩) (by assumption) ?hr1
        case hy1 => (intro w hSw; (try dsimp only at hSw); (first | (go_simp; done) | (go_simp; with_reducible rfl)))
        (try simp only [Act.put, List.getElem_toArray, List.getElem_cons_zero, List.getElem_cons_succ, List.setIfInBounds_toArray, List.set_cons_zero, List.set_cons_succ])
        refine wpAnyH_take (i := 1) (oi := _) (v := ?v2) rfl (by kernel_rfl) (by kernel_rfl) (by kernel_rfl) (fun _ _ _ h => h) (Or.inl ⟨by rfl, ?hy2⟩) (by assumption) ?hr2
        case hy2 => (intro w hSw; (try dsimp only at hSw); (first | (go_simp; done) | (go_simp; with_reducible rfl)))
        (try simp only [Act.put, List.getElem_toArray, List.getElem_cons_zero, List.getElem_cons_succ, List.setIfInBounds_toArray, List.set_cons_zero, List.set_cons_succ])
        refine wpAnyH_take (i := 2) (oi := _) (v := ?v3) rfl (by kernel_rfl) (by kernel_rfl) (by kernel_rfl) (fun _ _ _ h => h) (Or.inl ⟨by rfl, ?hy3⟩) (by assumption) ?hr3
        case hy3 => (intro w hSw; (try dsimp only at hSw); (first | (go_simp; done) | (go_simp; with_reducible rfl)))
        (try simp only [Act.put, List.getElem_toArray, List.getElem_cons_zero, List.getElem_cons_succ, List.setIfInBounds_toArray, List.set_cons_zero, List.set_cons_succ])
        refine wpAnyH_take (i := 3) (oi := _) (v := ?v4) rfl (by kernel_rfl) (by kernel_rfl) (by kernel_rfl) (fun _ _ _ h => h) (Or.inl ⟨by rfl, ?hy4⟩) (by assumption) ?hr4
        case hy4 => (intro w hSw; (try dsimp only at hSw); (first | (go_simp; done) | (go_simp; with_reducible rfl)))
        (try simp only [Act.put, List.getElem_toArray, List.getElem_cons_zero, List.getElem_cons_succ, List.setIfInBounds_toArray, List.set_cons_zero, List.set_cons_succ])
        refine wpAnyH_take (i := 4) (oi := _) (v := ?v5) rfl (by kernel_rfl) (by kernel_rfl) (by kernel_rfl) (fun _ _ _ h => h) (Or.inl ⟨by rfl, ?hy5⟩) (by assumption) ?hr5
        case hy5 => (intro w hSw; (try dsimp only at hSw); (first | (go_simp; done) | (go_simp; with_reducible rfl)))
        (try simp only [Act.put, List.getElem_toArray, List.getElem_cons_zero, List.getElem_cons_succ, List.setIfInBounds_toArray, List.set_cons_zero, List.set_cons_succ])
        refine wpAnyH_take (i := 5) (oi := _) (v := ?v6) rfl (by kernel_rfl) (by kernel_rfl) (by kernel_rfl) (fun _ _ _ h => h) (Or.inl ⟨by rfl, ?hy6⟩) (by assumption) ?hr6
        case hy6 => (intro w hSw; (try dsimp only at hSw); (first | (go_simp; done) | (go_simp; with_reducible rfl)))
        (try simp only [Act.put, List.getElem_toArray, List.getElem_cons_zero, List.getElem_cons_succ, List.setIfInBounds_toArray, List.set_cons_zero, List.set_cons_succ])
        refine wpAnyH_take (i := 6) (oi := _) (v := ?v7) rfl (by kernel_rfl) (by kernel_rfl) (by kernel_rfl) (fun _ _ _ h => h) (Or.inl ⟨by rfl, ?hy7⟩) (by assumption) ?hr7
        case hy7 => (intro w hSw; (try dsimp only at hSw); (first | (go_simp; done) | (go_simp; with_reducible rfl)))
        (try simp only [Act.put, List.getElem_toArray, List.getElem_cons_zero, List.getElem_cons_succ, List.setIfInBounds_toArray, List.set_cons_zero, List.set_cons_succ])
        refine wpAnyH_take (i := 7) (oi := _) (v := ?v8) rfl (by kernel_rfl) (by kernel_rfl) (by kernel_rfl) (fun _ _ _ h => h) (Or.inl ⟨by rfl, ?hy8⟩) (by assumption) ?hr8
        case hy8 => (intro w hSw; (try dsimp only at hSw); (first | (go_simp; done) | (go_simp; with_reducible rfl)))
        (try simp only [Act.put, List.getElem_toArray, List.getElem_cons_zero, List.getElem_cons_succ, List.setIfInBounds_toArray, List.set_cons_zero, List.set_cons_succ])
        refine wpAnyH_take (i := 8) (oi := _) (v := ?v9) rfl (by kernel_rfl) (by kernel_rfl) (by kernel_rfl) (fun _ _ _ h => h) (Or.inl ⟨by rfl, ?hy9⟩) (by assumption) ?hr9
        case hy9 => (intro w hSw; (try dsimp only at hSw); (first | (go_simp; done) | (go_simp; with_reducible rfl)))
        (try simp only [Act.put, List.getElem_toArray, List.getElem_cons_zero, List.getElem_cons_succ, List.setIfInBounds_toArray, List.set_cons_zero, List.set_cons_succ])
        refine wpAnyH_take (i := 9) (oi := _) (v := ?v10) rfl (by kernel_rfl) (by kernel_rfl) (by kernel_rfl) (fun _ _ _ h => h) (Or.inl ⟨by rfl, ?hy10⟩) (by assumption) ?hr10
        case hy10 => (intro w hSw; (try dsimp only at hSw); (first | (go_simp; done) | (go_simp; with_reducible rfl)))
        (try simp only [Act.put, List.getElem_toArray, List.getElem_cons_zero, List.getElem_cons_succ, List.setIfInBounds_toArray, List.set_cons_zero, List.set_cons_succ])
        refine wpAnyH_ready (rs := [10, 11]) (by kernel_rfl) (by simp) ?_
        refine AllReadyH.cons (o := _) rfl (fun K hK => ?_) (AllReadyH.cons (o := _) rfl (fun K hK => ?_) (AllReadyH.nil))
        · first | fail | go_simp
          refine hK.out _ _ (by ((try dsimp only); first | exact KP.out _ (by assumption) | exact KP.out _ (Below.drew (Below.refl _ _)) | exact KP.out _ (below_alloc (by assumption) _) | exact KP.out _ (below_alloc (Below.refl _ _) _) | exact KP.out _ (below_alloc (below_alloc (Below.refl _ _) _) _) | exact KP.out _ (below_drew (below_alloc (Below.refl _ _) _)) | exact KP.out _ (below_drew (below_alloc (below_alloc (Below.refl _ _) _) _)) | exact KP.out _ (below_drew (below_alloc (by assumption) _)))) (fun hHeld => ?_)
          clear hK K
          (try simp only [Act.put, List.getElem_toArray, List.getElem_cons_zero, List.getElem_cons_succ, List.setIfInBounds_toArray, List.set_cons_zero, List.set_cons_succ])
          refine wpAnyH_ready (rs := [11]) (by kernel_rfl) (by simp) ?_
          refine AllReadyH.cons (o := _) rfl (fun K hK => ?_) AllReadyH.nil
          first | fail | go_simp
          refine hK.out _ _ (by ((try dsimp only); first | exact KP.out _ (by assumption) | exact KP.out _ (Below.drew (Below.refl _ _)) | exact KP.out _ (below_alloc (by assumption) _) | exact KP.out _ (below_alloc (Below.refl _ _) _) | exact KP.out _ (below_alloc (below_alloc (Below.refl _ _) _) _) | exact KP.out _ (below_drew (below_alloc (Below.refl _ _) _)) | exact KP.out _ (below_drew (below_alloc (below_alloc (Below.refl _ _) _) _)) | exact KP.out _ (below_drew (below_alloc (by assumption) _)))) (fun hHeld => ?_)
          clear hK K
          (try simp only [Act.put, List.getElem_toArray, List.getElem_cons_zero, List.getElem_cons_succ, List.setIfInBounds_toArray, List.set_cons_zero, List.set_cons_succ])
          refine wpAnyH_ready (rs := [12]) (by kernel_rfl) (by simp) ?_
          refine AllReadyH.cons (o := _) rfl (fun K hK => ?_) AllReadyH.nil
          first | fail | go_simp
          refine hK.out _ _ (by ((try dsimp only); first | exact KP.out _ (by assumption) | exact KP.out _ (Below.drew (Below.refl _ _)) | exact KP.out _ (below_alloc (by assumption) _) | exact KP.out _ (below_alloc (Below.refl _ _) _) | exact KP.out _ (below_alloc (below_alloc (Below.refl _ _) _) _) | exact KP.out _ (below_drew (below_alloc (Below.refl _ _) _)) | exact KP.out _ (below_drew (below_alloc (below_alloc (Below.refl _ _) _) _)) | exact KP.out _ (below_drew (below_alloc (by assumption) _)))) (fun hHeld => ?_)
          clear hK K
          (try simp only [Act.put, List.getElem_toArray, List.getElem_cons_zero, List.getElem_cons_succ, List.setIfInBounds_toArray, List.set_cons_zero, List.set_cons_succ])
          refine wpAnyH_ready (rs := [13]) (by kernel_rfl) (by simp) ?_
          refine AllReadyH.cons (o := _) rfl (fun K hK => ?_) AllReadyH.nil
          first | fail | go_simp
          refine hK.out _ _ (by ((try dsimp only); first | exact KP.out _ (by assumption) | exact KP.out _ (Below.drew (Below.refl _ _)) | exact KP.out _ (below_alloc (by assumption) _) | exact KP.out _ (below_alloc (Below.refl _ _) _) | exact KP.out _ (below_alloc (below_alloc (Below.refl _ _) _) _) | exact KP.out _ (below_drew (below_alloc (Below.refl _ _) _)) | exact KP.out _ (below_drew (below_alloc (below_alloc (Below.refl _ _) _) _)) | exact KP.out _ (below_drew (below_alloc (by assumption) _)))) (fun hHeld => ?_)
          clear hK K
          (try simp only [Act.put, List.getElem_toArray, List.getElem_cons_zero, List.getElem_cons_succ, List.setIfInBounds_toArray, List.set_cons_zero, List.set_cons_succ])
          refine wpAnyH_done (by kernel_rfl) ?_ _
          refine NoPanic.normal ?_
          have hB2 := Aside0.mk (blk2 w10 (.cells #[.int .i64 h0, .int .i64 h1] 38) (.cells #[.int .i64 t0, .int .i64 t1] 38))
          by_cases ht0 : t0 = 0
          · have d0 : (t0 == 0) = true := beq_iff_eq.2 ht0
            have HT0 := Aside0.mk ht0
            clear ht0
            go_wp2_with fail
            have hpt : p = true := by rw [← HPQ.out]; unfold fitsV; dsimp only; rw [if_pos HT0.out]
            subst hpt
            go_roundg k1
            case measure => have := HKQ.out; omega
            case rel =>
              refine ⟨k + 1, by go_num, ⟨by omega⟩, ⟨by have := HKQ.out; omega⟩, ⟨fun j h h' hj => ?_⟩, ⟨(below_step (below_step HL.out hb10_.out) bel)⟩⟩
              rcases Nat.lt_or_ge j k with h9 | h9
              · exact HP.out j h h' h9
              · obtain rfl : j = k := by omega
                have := HPP.out
                simp only [HN.out] at this
                exact this
          have d0 : (t0 == 0) = false := beq_eq_false_iff_ne.2 ht0
          have HT0 := Aside0.mk ht0
          clear ht0
          by_cases ht4 : t0 = 4
          · have d4 : (t0 == 4) = true := beq_iff_eq.2 ht4
            have HT4 := Aside0.mk ht4
            clear ht4
            obtain ⟨ri, hri⟩ : ∃ r, isref h0 = r := ⟨_, rfl⟩
            cases ri with
            | false =>
              go_wp2_with (first | (go_at_call 23; (refine (plimsollref01_IsRef.calls h0 h1 _ _ (by rw [ref_isref_val, hri])).mono ?_); rintro e w12 ⟨rfl, hb12⟩; have HB12 : Below w10.heap.size w10 w12 := below_step bel hb12; have x1_12 := keepc HB12 x1_10; have y0_12 := (blk_cell (blk_below (blk_drew hB2.out.1) hb12) 0).trans rfl; clear hb12))
              have hpt : p = false := by rw [← HPQ.out]; unfold fitsV; dsimp only; rw [if_neg HT0.out, if_pos HT4.out, hri]; rfl
              subst hpt
              have HFF := Aside0.mk (show fitAll m.c op (st.drop L) I = false from by
                cases hfa : fitAll m.c op (st.drop L) I with
                | false => rfl
                | true =>
                  have h9 := (fitAll_iff (by rw [List.length_drop]; omega)).1 hfa k (by rw [List.length_drop]; omega) hk
                  rw [List.getElem_drop] at h9
                  have := HPP.out
                  simp only [HN.out] at this
                  rw [this] at h9
                  cases h9)
              refine bodyPost_ret (results_tmp3 rfl _ _ _) rfl ?_
              exact HRET.out _ (below_step (below_step hbw hb10_.out) HB12) HFF.out
            | true =>
              by_cases h34 : op = 34
              · have d34 : (op == 34) = true := beq_iff_eq.2 h34
                have H34 := Aside0.mk h34
                clear h34
                by_cases h2 : h0 = 2
                · have d2 : (h0 == 2) = true := beq_iff_eq.2 h2
                  have H2 := Aside0.mk h2
                  clear h2
                  go_wp2_with (first | (go_at_call 23; (refine (plimsollref01_IsRef.calls h0 h1 _ _ (by rw [ref_isref_val, hri])).mono ?_); rintro e w12 ⟨rfl, hb12⟩; have HB12 : Below w10.heap.size w10 w12 := below_step bel hb12; have x1_12 := keepc HB12 x1_10; have y0_12 := (blk_cell (blk_below (blk_drew hB2.out.1) hb12) 0).trans rfl; clear hb12))
                  have hpt : p = false := by rw [← HPQ.out]; unfold fitsV; dsimp only; rw [if_neg HT0.out, if_pos HT4.out, hri, decide_eq_false (fun h => h H34.out), decide_eq_false (fun h => h H2.out)]; rfl
                  subst hpt
                  have HFF := Aside0.mk (show fitAll m.c op (st.drop L) I = false from by
                    cases hfa : fitAll m.c op (st.drop L) I with
                    | false => rfl
                    | true =>
                      have h9 := (fitAll_iff (by rw [List.length_drop]; omega)).1 hfa k (by rw [List.length_drop]; omega) hk
                      rw [List.getElem_drop] at h9
                      have := HPP.out
                      simp only [HN.out] at this
                      rw [this] at h9
                      cases h9)
                  refine bodyPost_ret (results_tmp3 rfl _ _ _) rfl ?_
                  exact HRET.out _ (below_step (below_step hbw hb10_.out) HB12) HFF.out
                · have d2 : (h0 == 2) = false := beq_eq_false_iff_ne.2 h2
                  have H2 := Aside0.mk h2
                  clear h2
                  go_wp2_with (first | (go_at_call 23; (refine (plimsollref01_IsRef.calls h0 h1 _ _ (by rw [ref_isref_val, hri])).mono ?_); rintro e w12 ⟨rfl, hb12⟩; have HB12 : Below w10.heap.size w10 w12 := below_step bel hb12; have x1_12 := keepc HB12 x1_10; have y0_12 := (blk_cell (blk_below (blk_drew hB2.out.1) hb12) 0).trans rfl; clear hb12))
                  have hpt : p = true := by rw [← HPQ.out]; unfold fitsV; dsimp only; rw [if_neg HT0.out, if_pos HT4.out, hri, decide_eq_true H2.out, Bool.or_true]; rfl
                  subst hpt
                  go_roundg k1
                  case measure => have := HKQ.out; omega
                  case rel =>
                    refine ⟨k + 1, by go_num, ⟨by omega⟩, ⟨by have := HKQ.out; omega⟩, ⟨fun j h h' hj => ?_⟩, ⟨(below_step (below_step HL.out hb10_.out) HB12)⟩⟩
                    rcases Nat.lt_or_ge j k with h9 | h9
                    · exact HP.out j h h' h9
                    · obtain rfl : j = k := by omega
                      have := HPP.out
                      simp only [HN.out] at this
                      exact this
              · have d34 : (op == 34) = false := beq_eq_false_iff_ne.2 h34
                have H34 := Aside0.mk h34
                clear h34
                go_wp2_with (first | (go_at_call 23; (refine (plimsollref01_IsRef.calls h0 h1 _ _ (by rw [ref_isref_val, hri])).mono ?_); rintro e w12 ⟨rfl, hb12⟩; have HB12 : Below w10.heap.size w10 w12 := below_step bel hb12; have x1_12 := keepc HB12 x1_10; have y0_12 := (blk_cell (blk_below (blk_drew hB2.out.1) hb12) 0).trans rfl; clear hb12))
                have hpt : p = true := by rw [← HPQ.out]; unfold fitsV; dsimp only; rw [if_neg HT0.out, if_pos HT4.out, hri, decide_eq_true H34.out]; rfl
                subst hpt
                go_roundg k1
                case measure => have := HKQ.out; omega
                case rel =>
                  refine ⟨k + 1, by go_num, ⟨by omega⟩, ⟨by have := HKQ.out; omega⟩, ⟨fun j h h' hj => ?_⟩, ⟨(below_step (below_step HL.out hb10_.out) HB12)⟩⟩
                  rcases Nat.lt_or_ge j k with h9 | h9
                  · exact HP.out j h h' h9
                  · obtain rfl : j = k := by omega
                    have := HPP.out
                    simp only [HN.out] at this
                    exact this
          have d4 : (t0 == 4) = false := beq_eq_false_iff_ne.2 ht4
          have HPS := Aside0.mk (show sub (sf m.c) m.c.length h0 h1 t0 t1 = p from by rw [← HPQ.out]; unfold fitsV; dsimp only; rw [if_neg HT0.out, if_neg ht4])
          cases p with
          | true =>
            go_wp2_with (first | (go_at_call 15; (refine (rsub_calls (Kd.C_below HCL.out (below_step (below_step hbw hb10_.out) bel)) hcc (by omega) h0 h1 t0 t1 HPS.out).mono ?_); rintro e w12 ⟨rfl, hb12⟩; have HB12 : Below w10.heap.size w10 w12 := below_step bel hb12; clear hb12))
            go_roundg k1
            case measure => have := HKQ.out; omega
            case rel =>
              refine ⟨k + 1, by go_num, ⟨by omega⟩, ⟨by have := HKQ.out; omega⟩, ⟨fun j h h' hj => ?_⟩, ⟨(below_step (below_step HL.out hb10_.out) HB12)⟩⟩
              rcases Nat.lt_or_ge j k with h9 | h9
              · exact HP.out j h h' h9
              · obtain rfl : j = k := by omega
                have := HPP.out
                simp only [HN.out] at this
                exact this
          | false =>
            go_wp2_with (first | (go_at_call 15; (refine (rsub_calls (Kd.C_below HCL.out (below_step (below_step hbw hb10_.out) bel)) hcc (by omega) h0 h1 t0 t1 HPS.out).mono ?_); rintro e w12 ⟨rfl, hb12⟩; have HB12 : Below w10.heap.size w10 w12 := below_step bel hb12; clear hb12))
            have HFF := Aside0.mk (show fitAll m.c op (st.drop L) I = false from by
              cases hfa : fitAll m.c op (st.drop L) I with
              | false => rfl
              | true =>
                have h9 := (fitAll_iff (by rw [List.length_drop]; omega)).1 hfa k (by rw [List.length_drop]; omega) hk
                rw [List.getElem_drop] at h9
                have := HPP.out
                simp only [HN.out] at this
                rw [this] at h9
                cases h9)
            refine bodyPost_ret (results_tmp3 rfl _ _ _) rfl ?_
            exact HRET.out _ (below_step (below_step hbw hb10_.out) HB12) HFF.out
        · first | fail | go_simp
          refine hK.out _ _ (by ((try dsimp only); first | exact KP.out _ (by assumption) | exact KP.out _ (Below.drew (Below.refl _ _)) | exact KP.out _ (below_alloc (by assumption) _) | exact KP.out _ (below_alloc (Below.refl _ _) _) | exact KP.out _ (below_alloc (below_alloc (Below.refl _ _) _) _) | exact KP.out _ (below_drew (below_alloc (Below.refl _ _) _)) | exact KP.out _ (below_drew (below_alloc (below_alloc (Below.refl _ _) _) _)) | exact KP.out _ (below_drew (below_alloc (by assumption) _)))) (fun hHeld => ?_)
          clear hK K
          (try simp only [Act.put, List.getElem_toArray, List.getElem_cons_zero, List.getElem_cons_succ, List.setIfInBounds_toArray, List.set_cons_zero, List.set_cons_succ])
          refine wpAnyH_ready (rs := [10]) (by kernel_rfl) (by simp) ?_
          refine AllReadyH.cons (o := _) rfl (fun K hK => ?_) AllReadyH.nil
          first | fail | go_simp
          refine hK.out _ _ (by ((try dsimp only); first | exact KP.out _ (by assumption) | exact KP.out _ (Below.drew (Below.refl _ _)) | exact KP.out _ (below_alloc (by assumption) _) | exact KP.out _ (below_alloc (Below.refl _ _) _) | exact KP.out _ (below_alloc (below_alloc (Below.refl _ _) _) _) | exact KP.out _ (below_drew (below_alloc (Below.refl _ _) _)) | exact KP.out _ (below_drew (below_alloc (below_alloc (Below.refl _ _) _) _)) | exact KP.out _ (below_drew (below_alloc (by assumption) _)))) (fun hHeld => ?_)
          clear hK K
          (try simp only [Act.put, List.getElem_toArray, List.getElem_cons_zero, List.getElem_cons_succ, List.setIfInBounds_toArray, List.set_cons_zero, List.set_cons_succ])
          refine wpAnyH_ready (rs := [12]) (by kernel_rfl) (by simp) ?_
          refine AllReadyH.cons (o := _) rfl (fun K hK => ?_) AllReadyH.nil
          first | fail | go_simp
          refine hK.out _ _ (by ((try dsimp only); first | exact KP.out _ (by assumption) | exact KP.out _ (Below.drew (Below.refl _ _)) | exact KP.out _ (below_alloc (by assumption) _) | exact KP.out _ (below_alloc (Below.refl _ _) _) | exact KP.out _ (below_alloc (below_alloc (Below.refl _ _) _) _) | exact KP.out _ (below_drew (below_alloc (Below.refl _ _) _)) | exact KP.out _ (below_drew (below_alloc (below_alloc (Below.refl _ _) _) _)) | exact KP.out _ (below_drew (below_alloc (by assumption) _)))) (fun hHeld => ?_)
          clear hK K
          (try simp only [Act.put, List.getElem_toArray, List.getElem_cons_zero, List.getElem_cons_succ, List.setIfInBounds_toArray, List.set_cons_zero, List.set_cons_succ])
          refine wpAnyH_ready (rs := [13]) (by kernel_rfl) (by simp) ?_
          refine AllReadyH.cons (o := _) rfl (fun K hK => ?_) AllReadyH.nil
          first | fail | go_simp
          refine hK.out _ _ (by ((try dsimp only); first | exact KP.out _ (by assumption) | exact KP.out _ (Below.drew (Below.refl _ _)) | exact KP.out _ (below_alloc (by assumption) _) | exact KP.out _ (below_alloc (Below.refl _ _) _) | exact KP.out _ (below_alloc (below_alloc (Below.refl _ _) _) _) | exact KP.out _ (below_drew (below_alloc (Below.refl _ _) _)) | exact KP.out _ (below_drew (below_alloc (below_alloc (Below.refl _ _) _) _)) | exact KP.out _ (below_drew (below_alloc (by assumption) _)))) (fun hHeld => ?_)
          clear hK K
          (try simp only [Act.put, List.getElem_toArray, List.getElem_cons_zero, List.getElem_cons_succ, List.setIfInBounds_toArray, List.set_cons_zero, List.set_cons_succ])
          refine wpAnyH_done (by kernel_rfl) ?_ _
          refine NoPanic.normal ?_
          have hB2 := Aside0.mk (blk2 w10 (.cells #[.int .i64 t0, .int .i64 t1] 38) (.cells #[.int .i64 h0, .int .i64 h1] 38))
          by_cases ht0 : t0 = 0
          · have d0 : (t0 == 0) = true := beq_iff_eq.2 ht0
            have HT0 := Aside0.mk ht0
            clear ht0
            go_wp2_with fail
            have hpt : p = true := by rw [← HPQ.out]; unfold fitsV; dsimp only; rw [if_pos HT0.out]
            subst hpt
            go_roundg k1
            case measure => have := HKQ.out; omega
            case rel =>
              refine ⟨k + 1, by go_num, ⟨by omega⟩, ⟨by have := HKQ.out; omega⟩, ⟨fun j h h' hj => ?_⟩, ⟨(below_step (below_step HL.out hb10_.out) bel)⟩⟩
              rcases Nat.lt_or_ge j k with h9 | h9
              · exact HP.out j h h' h9
              · obtain rfl : j = k := by omega
                have := HPP.out
                simp only [HN.out] at this
                exact this
          have d0 : (t0 == 0) = false := beq_eq_false_iff_ne.2 ht0
          have HT0 := Aside0.mk ht0
          clear ht0
          by_cases ht4 : t0 = 4
          · have d4 : (t0 == 4) = true := beq_iff_eq.2 ht4
            have HT4 := Aside0.mk ht4
            clear ht4
            obtain ⟨ri, hri⟩ : ∃ r, isref h0 = r := ⟨_, rfl⟩
            cases ri with
            | false =>
              go_wp2_with (first | (go_at_call 23; (refine (plimsollref01_IsRef.calls h0 h1 _ _ (by rw [ref_isref_val, hri])).mono ?_); rintro e w12 ⟨rfl, hb12⟩; have HB12 : Below w10.heap.size w10 w12 := below_step bel hb12; have x1_12 := keepc HB12 x1_10; have y0_12 := (blk_cell (blk_below (blk_drew hB2.out.2) hb12) 0).trans rfl; clear hb12))
              have hpt : p = false := by rw [← HPQ.out]; unfold fitsV; dsimp only; rw [if_neg HT0.out, if_pos HT4.out, hri]; rfl
              subst hpt
              have HFF := Aside0.mk (show fitAll m.c op (st.drop L) I = false from by
                cases hfa : fitAll m.c op (st.drop L) I with
                | false => rfl
                | true =>
                  have h9 := (fitAll_iff (by rw [List.length_drop]; omega)).1 hfa k (by rw [List.length_drop]; omega) hk
                  rw [List.getElem_drop] at h9
                  have := HPP.out
                  simp only [HN.out] at this
                  rw [this] at h9
                  cases h9)
              refine bodyPost_ret (results_tmp3 rfl _ _ _) rfl ?_
              exact HRET.out _ (below_step (below_step hbw hb10_.out) HB12) HFF.out
            | true =>
              by_cases h34 : op = 34
              · have d34 : (op == 34) = true := beq_iff_eq.2 h34
                have H34 := Aside0.mk h34
                clear h34
                by_cases h2 : h0 = 2
                · have d2 : (h0 == 2) = true := beq_iff_eq.2 h2
                  have H2 := Aside0.mk h2
                  clear h2
                  go_wp2_with (first | (go_at_call 23; (refine (plimsollref01_IsRef.calls h0 h1 _ _ (by rw [ref_isref_val, hri])).mono ?_); rintro e w12 ⟨rfl, hb12⟩; have HB12 : Below w10.heap.size w10 w12 := below_step bel hb12; have x1_12 := keepc HB12 x1_10; have y0_12 := (blk_cell (blk_below (blk_drew hB2.out.2) hb12) 0).trans rfl; clear hb12))
                  have hpt : p = false := by rw [← HPQ.out]; unfold fitsV; dsimp only; rw [if_neg HT0.out, if_pos HT4.out, hri, decide_eq_false (fun h => h H34.out), decide_eq_false (fun h => h H2.out)]; rfl
                  subst hpt
                  have HFF := Aside0.mk (show fitAll m.c op (st.drop L) I = false from by
                    cases hfa : fitAll m.c op (st.drop L) I with
                    | false => rfl
                    | true =>
                      have h9 := (fitAll_iff (by rw [List.length_drop]; omega)).1 hfa k (by rw [List.length_drop]; omega) hk
                      rw [List.getElem_drop] at h9
                      have := HPP.out
                      simp only [HN.out] at this
                      rw [this] at h9
                      cases h9)
                  refine bodyPost_ret (results_tmp3 rfl _ _ _) rfl ?_
                  exact HRET.out _ (below_step (below_step hbw hb10_.out) HB12) HFF.out
                · have d2 : (h0 == 2) = false := beq_eq_false_iff_ne.2 h2
                  have H2 := Aside0.mk h2
                  clear h2
                  go_wp2_with (first | (go_at_call 23; (refine (plimsollref01_IsRef.calls h0 h1 _ _ (by rw [ref_isref_val, hri])).mono ?_); rintro e w12 ⟨rfl, hb12⟩; have HB12 : Below w10.heap.size w10 w12 := below_step bel hb12; have x1_12 := keepc HB12 x1_10; have y0_12 := (blk_cell (blk_below (blk_drew hB2.out.2) hb12) 0).trans rfl; clear hb12))
                  have hpt : p = true := by rw [← HPQ.out]; unfold fitsV; dsimp only; rw [if_neg HT0.out, if_pos HT4.out, hri, decide_eq_true H2.out, Bool.or_true]; rfl
                  subst hpt
                  go_roundg k1
                  case measure => have := HKQ.out; omega
                  case rel =>
                    refine ⟨k + 1, by go_num, ⟨by omega⟩, ⟨by have := HKQ.out; omega⟩, ⟨fun j h h' hj => ?_⟩, ⟨(below_step (below_step HL.out hb10_.out) HB12)⟩⟩
                    rcases Nat.lt_or_ge j k with h9 | h9
                    · exact HP.out j h h' h9
                    · obtain rfl : j = k := by omega
                      have := HPP.out
                      simp only [HN.out] at this
                      exact this
              · have d34 : (op == 34) = false := beq_eq_false_iff_ne.2 h34
                have H34 := Aside0.mk h34
                clear h34
                go_wp2_with (first | (go_at_call 23; (refine (plimsollref01_IsRef.calls h0 h1 _ _ (by rw [ref_isref_val, hri])).mono ?_); rintro e w12 ⟨rfl, hb12⟩; have HB12 : Below w10.heap.size w10 w12 := below_step bel hb12; have x1_12 := keepc HB12 x1_10; have y0_12 := (blk_cell (blk_below (blk_drew hB2.out.2) hb12) 0).trans rfl; clear hb12))
                have hpt : p = true := by rw [← HPQ.out]; unfold fitsV; dsimp only; rw [if_neg HT0.out, if_pos HT4.out, hri, decide_eq_true H34.out]; rfl
                subst hpt
                go_roundg k1
                case measure => have := HKQ.out; omega
                case rel =>
                  refine ⟨k + 1, by go_num, ⟨by omega⟩, ⟨by have := HKQ.out; omega⟩, ⟨fun j h h' hj => ?_⟩, ⟨(below_step (below_step HL.out hb10_.out) HB12)⟩⟩
                  rcases Nat.lt_or_ge j k with h9 | h9
                  · exact HP.out j h h' h9
                  · obtain rfl : j = k := by omega
                    have := HPP.out
                    simp only [HN.out] at this
                    exact this
          have d4 : (t0 == 4) = false := beq_eq_false_iff_ne.2 ht4
          have HPS := Aside0.mk (show sub (sf m.c) m.c.length h0 h1 t0 t1 = p from by rw [← HPQ.out]; unfold fitsV; dsimp only; rw [if_neg HT0.out, if_neg ht4])
          cases p with
          | true =>
            go_wp2_with (first | (go_at_call 15; (refine (rsub_calls (Kd.C_below HCL.out (below_step (below_step hbw hb10_.out) bel)) hcc (by omega) h0 h1 t0 t1 HPS.out).mono ?_); rintro e w12 ⟨rfl, hb12⟩; have HB12 : Below w10.heap.size w10 w12 := below_step bel hb12; clear hb12))
            go_roundg k1
            case measure => have := HKQ.out; omega
            case rel =>
              refine ⟨k + 1, by go_num, ⟨by omega⟩, ⟨by have := HKQ.out; omega⟩, ⟨fun j h h' hj => ?_⟩, ⟨(below_step (below_step HL.out hb10_.out) HB12)⟩⟩
              rcases Nat.lt_or_ge j k with h9 | h9
              · exact HP.out j h h' h9
              · obtain rfl : j = k := by omega
                have := HPP.out
                simp only [HN.out] at this
                exact this
          | false =>
            go_wp2_with (first | (go_at_call 15; (refine (rsub_calls (Kd.C_below HCL.out (below_step (below_step hbw hb10_.out) bel)) hcc (by omega) h0 h1 t0 t1 HPS.out).mono ?_); rintro e w12 ⟨rfl, hb12⟩; have HB12 : Below w10.heap.size w10 w12 := below_step bel hb12; clear hb12))
            have HFF := Aside0.mk (show fitAll m.c op (st.drop L) I = false from by
              cases hfa : fitAll m.c op (st.drop L) I with
              | false => rfl
              | true =>
                have h9 := (fitAll_iff (by rw [List.length_drop]; omega)).1 hfa k (by rw [List.length_drop]; omega) hk
                rw [List.getElem_drop] at h9
                have := HPP.out
                simp only [HN.out] at this
                rw [this] at h9
                cases h9)
            refine bodyPost_ret (results_tmp3 rfl _ _ _) rfl ?_
            exact HRET.out _ (below_step (below_step hbw hb10_.out) HB12) HFF.out
      · have hke : k = I.length := by have := HK.out; omega
        subst hke
        have HFT := Aside0.mk ((fitAll_iff (by rw [List.length_drop]; omega)).2 (fun j h h' => by rw [List.getElem_drop]; exact HP.out j h' (by omega) h') : fitAll m.c op (st.drop L) I = true)
        clear HP hk
        go_wp2_with fail
        apply HE.out
        · exact HL.out
        · exact HFT.out
end Go.Proofs.Ytoiahldbahdaoaa.Flow
