/- The law's last statement, in whatever order its parts come up. -/
import Derived.Test.YthfkajolockcgaaAddsAR
import Derived.Deep.RegionHeld3
namespace Go.Proofs.Ythfkajolockcgaa.Adds
open Go.RowKit Go.Proofs.Ythfkajolockcgaa.QLinAdds Go.Proofs.YthfkajolockcgaaW.PrintWords Go.Proofs.YthfkajolockcgaaW.PrintLast Go.Proofs.YthfkajolockcgaaW.PrintMore Go.Proofs.Ythfkajolockcgaa.Open Go.Proofs.Ythfkajolockcgaa.Lin
set_option linter.unusedVariables false
set_option linter.unusedSimpArgs false
def R32T : Bool × List (List Nat × List Nat) := (true,   [([], []), ([0, 0], [0]), ([1], [1]), ([1], [1]), ([1], [1]), ([2, 3, 4, 1, 1], [1, 2, 3, 4]), ([1, 5], [1, 5]),     ([6, 5], [6]), ([7], [7]), ([8, 7], [7, 8]), ([9, 7, 7], [7, 9]), ([10], [10]), ([10], [10]),     ([11, 12, 10, 10], [10, 11, 12]), ([10], [10]), ([14, 10], [10, 14]), ([13, 15, 13, 10], [10, 13, 15]),     ([10], [10]), ([10], [10]), ([17, 18, 16, 10], [10, 17, 18]), ([10], [10]),     ([16, 19, 20, 19, 10], [10, 16, 19, 20]), ([10, 21, 7], [7, 10, 21]), ([7, 22], [7, 22]),     ([23, 21, 0, 1, 2, 3, 4, 5, 6, 7, 8, 9, 10, 11, 12, 13, 14, 15, 16, 17, 18, 19, 20, 21, 22, 23], [23])])
def R32B : List Nat := [0, 1, 3, 3, 3, 31, 63, 127, 255, 511, 1023, 2047, 2047, 8191, 2047, 18431, 65535, 2047, 2047, 524287, 2047, 2097151, 4194303, 8388607, 16777215]
theorem R32tab : rtab .any (opsOf Try.f7 32) = R32T := by kernel_rfl
theorem R32bits : waitsOk R32T.2 R32B = true := by kernel_rfl
theorem AW.C {w w' : World} {gb : Nat} {A2 : Option Addr} {n c2 : Nat} {mm : Int} {A : Option Addr} {c m : Nat} {vu : Value} {ts us : List Int} (h : AW w w' gb A2 n c2 mm (.slice A m c) vu ts us) : Kd.C (Kd.int .i64) w' A ts.length ts := by
  obtain ⟨A', c', e, hC, _⟩ := own_blk h.ot
  injection e with e1 e2 e3
  subst e1
  exact hC
set_option maxHeartbeats 16000000 in
set_option maxRecDepth 100000 in
theorem LinAdds.last (A0 : Option Addr) (c0 : Nat) (l0 : List S27) (A2 : Option Addr) (c2 : Nat) (mc : List Int) (mm : Int) (w W : World) (gb gx gy : Nat) (hr0 : Kd.C k27 w A0 l0.length l0) (hc0 : l0.length ≤ c0) (hr2 : Kd.C (Kd.int .i64) w A2 mc.length mc) (hc2 : mc.length ≤ c2)
    (h10 : l0.length ≤ 10) (ts us X : List Int) (M : Int) (htl : ts.length = l0.length) (hXl : X.length = mc.length)
    (p1 : lin_Proves.f 100000 l0 ts X M = some true)
    (p2 : (∀ c ∈ mc, -1152921504606846976 < c ∧ c < 1152921504606846976) → (-1152921504606846976 < mm ∧ mm < 1152921504606846976) → lin_Proves.f 100000 (l0 ++ [⟨mc, mm⟩]) (ts ++ [0]) X M = some true)
    (At Au Ax : Option Addr) (ct cu cx : Nat) (vu vy : Value) (hct : ts.length ≤ ct) (hcx : X.length ≤ cx)
    (u1 u2 u3 u4 u6 u8 u9 u10 u11 u13 u14 u15 u16 u18 u19 u20 u21 u22 u23 u24 u25 u26 u27 u28 u29 u30 u31 u32 u33 u34 u35 u36 u37 u38 u39 u40 u41 u42 u43 u44 u45 u46 u47 u48 u49 u50 u51 u52 u53 u54 u55 u56 u57 u58 u59 u60 u61 u62 u63 u64 u65 u66 u67 u68 u69 u70 u71 u72 u73 u74 u75 u76 u77 u78 u79 u80 u81 u82 u83 u84 u85 u86 u87 u88 u89 u90 u91 u92 u93 u94 u95 u96 u97 u98 u99 u100 u101 u102 u103 u104 u105 u106 u107 u108 u109 u110 u111 u112 u113 u114 u115 u116 u117 u118 u119 u120 u121 u122 u123 u124 u125 u126 u127 u128 u129 u130 u131 u132 u133 u134 u135 u136 u137 u138 u139 u140 u141 u142 u143 u144 u145 u146 u147 u148 u149 u150 u151 u152 u153 u154 u155 u156 u157 u158 u159 u160 u161 u162 u163 u164 u165 u166 u167 u168 u169 u170 u171 u172 u173 u174 u175 u176 u177 u178 u179 u180 u181 u182 u183 u184 u185 u186 u187 u188 u189 u190 u191 u192 u193 u194 u195 u196 u197 u198 u199 u200 u201 u202 u203 u204 u205 u206 u207 u208 u209 u210 u211 u212 u213 u214 u215 u216 u217 u218 u219 u220 u221 u222 u223 u224 u225 u226 u227 u228 u229 u230 u231 u232 u233 u234 u235 u236 : Value) (hL : TW w W gb gx gy A2 mc.length c2 mm (.slice At ts.length ct) vu ts us (.slice Ax mc.length cx) X M vy) :
    Code.wp Try.prog addsLast (bodyPost Try.prog Try.f7 (fun e w' => e = .returned (.bool true) ∧ Below w.heap.size w w')) ⟨List.toArray (.slice A0 l0.length c0 :: u1 :: u2 :: u3 :: u4 :: .pointer (some ⟨gb, 0, none⟩) :: u6 :: .slice At ts.length ct :: u8 :: u9 :: u10 :: u11 :: .pointer (some ⟨gx, 0, none⟩) :: u13 :: u14 :: u15 :: u16 :: .bool (smB mm mc mc.length) :: u18 :: u19 :: u20 :: u21 :: u22 :: u23 :: u24 :: u25 :: u26 :: u27 :: u28 :: u29 :: u30 :: u31 :: u32 :: u33 :: u34 :: u35 :: u36 :: u37 :: u38 :: u39 :: u40 :: u41 :: u42 :: u43 :: u44 :: u45 :: u46 :: u47 :: u48 :: u49 :: u50 :: u51 :: u52 :: u53 :: u54 :: u55 :: u56 :: u57 :: u58 :: u59 :: u60 :: u61 :: u62 :: u63 :: u64 :: u65 :: u66 :: u67 :: u68 :: u69 :: u70 :: u71 :: u72 :: u73 :: u74 :: u75 :: u76 :: u77 :: u78 :: u79 :: u80 :: u81 :: u82 :: u83 :: u84 :: u85 :: u86 :: u87 :: u88 :: u89 :: u90 :: u91 :: u92 :: u93 :: u94 :: u95 :: u96 :: u97 :: u98 :: u99 :: u100 :: u101 :: u102 :: u103 :: u104 :: u105 :: u106 :: u107 :: u108 :: u109 :: u110 :: u111 :: u112 :: u113 :: u114 :: u115 :: u116 :: u117 :: u118 :: u119 :: u120 :: u121 :: u122 :: u123 :: u124 :: u125 :: u126 :: u127 :: u128 :: u129 :: u130 :: u131 :: u132 :: u133 :: u134 :: u135 :: u136 :: u137 :: u138 :: u139 :: u140 :: u141 :: u142 :: u143 :: u144 :: u145 :: u146 :: u147 :: u148 :: u149 :: u150 :: u151 :: u152 :: u153 :: u154 :: u155 :: u156 :: u157 :: u158 :: u159 :: u160 :: u161 :: u162 :: u163 :: u164 :: u165 :: u166 :: u167 :: u168 :: u169 :: u170 :: u171 :: u172 :: u173 :: u174 :: u175 :: u176 :: u177 :: u178 :: u179 :: u180 :: u181 :: u182 :: u183 :: u184 :: u185 :: u186 :: u187 :: u188 :: u189 :: u190 :: u191 :: u192 :: u193 :: u194 :: u195 :: u196 :: u197 :: u198 :: u199 :: u200 :: u201 :: u202 :: u203 :: u204 :: u205 :: u206 :: u207 :: u208 :: u209 :: u210 :: u211 :: u212 :: u213 :: u214 :: u215 :: u216 :: u217 :: u218 :: u219 :: u220 :: u221 :: u222 :: u223 :: u224 :: u225 :: u226 :: u227 :: u228 :: u229 :: u230 :: u231 :: u232 :: u233 :: u234 :: u235 :: u236 :: []), []⟩ W := by
  conv => arg 2; whnf
  have HAW := Aside0.mk (fun w => plimsolllaw14_awake.calls 40 true w (awake_ok 40 (Nat.le_refl _)))
  have PR := Aside0.mk (show ∀ x, Below W.heap.size W x → Calls Try.prog 14 #[.slice A0 l0.length c0, .slice At ts.length ct, .agg #[.slice Ax mc.length cx, .int .i64 M]] x (fun e w' => e = .returned (.bool true) ∧ Below x.heap.size x w') from by
    intro x hb
    rw [← hXl]
    exact lin_Proves.calls 100000 A0 c0 l0 At ct ts Ax cx X M true x (Kd.C_below (Kd.C_below hr0 hL.aw.bel) hb) hc0 (Kd.C_below hL.aw.C hb) hct (Kd.C_below (hL.sx.C hXl) hb) hcx p1)
  have HL := Aside0.mk hL
  have HX0 := Aside0.mk (show W.cell? ⟨gx, 0, none⟩ = some (.slice Ax mc.length cx) from (blk_cell hL.sx.bx 0).trans rfl)
  have HX1 := Aside0.mk (show W.cell? ⟨gx, 1, none⟩ = some (.int .i64 M) from (blk_cell hL.sx.bx 1).trans rfl)
  cases hsm : smB mm mc mc.length
  · clear p2 p1 hL hr0 hc0 hr2 hc2 htl hXl hct hcx hsm h10
    go_wp2_with fail
    have HBB := Aside0.mk (Below.drew (Below.refl W.heap.size W))
    refine start_ (n := 25) (S := fun x => Below W.heap.size W x ∧ x.cell? ⟨gx, 0, none⟩ = some (.slice Ax mc.length cx) ∧ x.cell? ⟨gx, 1, none⟩ = some (.int .i64 M)) (ds := []) #[false, false, false, false, false, false, false, false, false, false, false, false, false, false, false, false, false, false, false, false, false, false, false, false, false] (by kernel_rfl) rfl rfl ⟨HBB.out, keepc HBB.out HX0.out, keepc HBB.out HX1.out⟩ (fun hHeld => ?_)
    refine with_tabW R32tab R32bits (fun HT_ HW_ => ?_)
    generalize W.drew = w20 at HBB hHeld ⊢
    refine one_ (i := 0) (N := some 213) #[true, false, false, false, false, false, false, false, false, false, false, false, false, false, false, false, false, false, false, false, false, false, false, false, false] rfl rfl (one_of HT_.out (by kernel_rfl)) (by decide) (fun K hK => ?_)
    refine goes_ Try.func10 (by kernel_rfl) rfl #[] (by rfl) rfl rfl (by (try simp only [List.map_toArray, List.map_cons, List.map_nil]); first | done | rfl) ?_
    refine (HAW.out _).mono ?_
    rintro e w20 ⟨rfl, hb⟩
    refine ⟨_, rfl, ?_⟩
    have n1_ := Aside0.mk (below_step HBB.out hb)
    clear HBB hb
    have HBB := n1_
    clear n1_
    refine hK.out _ _ ⟨HBB.out, keepc HBB.out HX0.out, keepc HBB.out HX1.out⟩ (fun hHeld => ?_)
    clear hK K
    refine norm_ (a' := ?_) ?_ ?_
    rotate_left
    · show Act.put _ (some 213) _ = _
      simp only [Act.put, List.setIfInBounds_toArray, List.set_cons_zero, List.set_cons_succ, i64_w, i32_w]
      rfl
    refine pure_ (i := 1) (N := some 214) (v := ?_) (a' := ?_) #[true, true, false, false, false, false, false, false, false, false, false, false, false, false, false, false, false, false, false, false, false, false, false, false, false] rfl rfl (any_of HT_.out (by kernel_rfl)) (fun _ _ _ h => h) (Or.inl ⟨by rfl, ?_⟩) ?_ ?_
    rotate_left
    · intro w'
      go_simp
      with_reducible rfl
    rotate_left
    · simp only [Act.put, List.setIfInBounds_toArray, List.set_cons_zero, List.set_cons_succ, i64_w, i32_w]
      rfl
    refine pure_ (i := 2) (N := some 215) (v := ?_) (a' := ?_) #[true, true, true, false, false, false, false, false, false, false, false, false, false, false, false, false, false, false, false, false, false, false, false, false, false] rfl rfl (any_of HT_.out (by kernel_rfl)) (fun _ _ _ h => h) (Or.inl ⟨by rfl, ?_⟩) ?_ ?_
    rotate_left
    · intro w'
      go_simp
      with_reducible rfl
    rotate_left
    · simp only [Act.put, List.setIfInBounds_toArray, List.set_cons_zero, List.set_cons_succ, i64_w, i32_w]
      rfl
    refine pure_ (i := 3) (N := some 216) (v := ?_) (a' := ?_) #[true, true, true, true, false, false, false, false, false, false, false, false, false, false, false, false, false, false, false, false, false, false, false, false, false] rfl rfl (any_of HT_.out (by kernel_rfl)) (fun _ _ _ h => h) (Or.inl ⟨by rfl, ?_⟩) ?_ ?_
    rotate_left
    · intro w'
      go_simp
      with_reducible rfl
    rotate_left
    · simp only [Act.put, List.setIfInBounds_toArray, List.set_cons_zero, List.set_cons_succ, i64_w, i32_w]
      rfl
    refine take_ (i := 4) (N := some 217) (v := ?_) (a' := ?_) #[true, true, true, true, true, false, false, false, false, false, false, false, false, false, false, false, false, false, false, false, false, false, false, false, false] rfl rfl (take_ofW HT_.out HW_.out (by kernel_rfl)) (fun _ _ _ h => h) (Or.inl ⟨by rfl, ?_⟩) hHeld ?_ ?_
    rotate_left
    · rintro w' ⟨s0, s1, s2⟩
      go_simp
      with_reducible rfl
    rotate_left
    · simp only [Act.put, List.setIfInBounds_toArray, List.set_cons_zero, List.set_cons_succ, i64_w, i32_w]
      rfl
    refine one_ (i := 5) (N := some 218) #[true, true, true, true, true, true, false, false, false, false, false, false, false, false, false, false, false, false, false, false, false, false, false, false, false] rfl rfl (one_of HT_.out (by kernel_rfl)) (by decide) (fun K hK => ?_)
    refine goes_ Try.func14 (by kernel_rfl) rfl #[.slice A0 l0.length c0, .slice At ts.length ct, .agg #[.slice Ax mc.length cx, .int .i64 M]] (by rfl) rfl rfl (by (try simp only [List.map_toArray, List.map_cons, List.map_nil]); first | done | rfl) ?_
    refine (PR.out _ HBB.out).mono ?_
    rintro e w25 ⟨rfl, hb⟩
    refine ⟨_, rfl, ?_⟩
    have n1_ := Aside0.mk (below_step HBB.out hb)
    clear HBB hb
    have HBB := n1_
    clear n1_
    refine hK.out _ _ ⟨HBB.out, keepc HBB.out HX0.out, keepc HBB.out HX1.out⟩ (fun hHeld => ?_)
    clear hK K
    refine norm_ (a' := ?_) ?_ ?_
    rotate_left
    · show Act.put _ (some 218) _ = _
      simp only [Act.put, List.setIfInBounds_toArray, List.set_cons_zero, List.set_cons_succ, i64_w, i32_w]
      rfl
    refine pure_ (i := 6) (N := some 219) (v := ?_) (a' := ?_) #[true, true, true, true, true, true, true, false, false, false, false, false, false, false, false, false, false, false, false, false, false, false, false, false, false] rfl rfl (any_of HT_.out (by kernel_rfl)) (fun _ _ _ h => h) (Or.inl ⟨by rfl, ?_⟩) ?_ ?_
    rotate_left
    · intro w'
      go_simp
      with_reducible rfl
    rotate_left
    · simp only [Act.put, List.setIfInBounds_toArray, List.set_cons_zero, List.set_cons_succ, i64_w, i32_w]
      rfl
    refine pure_ (i := 7) (N := some 220) (v := ?_) (a' := ?_) #[true, true, true, true, true, true, true, true, false, false, false, false, false, false, false, false, false, false, false, false, false, false, false, false, false] rfl rfl (any_of HT_.out (by kernel_rfl)) (fun _ _ _ h => h) (Or.inl ⟨by rfl, ?_⟩) ?_ ?_
    rotate_left
    · intro w'
      go_simp
      with_reducible rfl
    rotate_left
    · simp only [Act.put, List.setIfInBounds_toArray, List.set_cons_zero, List.set_cons_succ, i64_w, i32_w]
      rfl
    refine pure_ (i := 8) (N := some 221) (v := ?_) (a' := ?_) #[true, true, true, true, true, true, true, true, true, false, false, false, false, false, false, false, false, false, false, false, false, false, false, false, false] rfl rfl (any_of HT_.out (by kernel_rfl)) (fun _ _ _ h => h) (Or.inl ⟨by rfl, ?_⟩) ?_ ?_
    rotate_left
    · intro w'
      go_simp
      with_reducible rfl
    rotate_left
    · simp only [Act.put, List.setIfInBounds_toArray, List.set_cons_zero, List.set_cons_succ, i64_w, i32_w]
      rfl
    refine pure_ (i := 9) (N := some 222) (v := ?_) (a' := ?_) #[true, true, true, true, true, true, true, true, true, true, false, false, false, false, false, false, false, false, false, false, false, false, false, false, false] rfl rfl (any_of HT_.out (by kernel_rfl)) (fun _ _ _ h => h) (Or.inl ⟨by rfl, ?_⟩) ?_ ?_
    rotate_left
    · intro w'
      go_simp
      with_reducible rfl
    rotate_left
    · simp only [Act.put, List.setIfInBounds_toArray, List.set_cons_zero, List.set_cons_succ, i64_w, i32_w]
      rfl
    refine pure_ (i := 10) (N := some 223) (v := ?_) (a' := ?_) #[true, true, true, true, true, true, true, true, true, true, true, false, false, false, false, false, false, false, false, false, false, false, false, false, false] rfl rfl (any_of HT_.out (by kernel_rfl)) (fun _ _ _ h => h) (Or.inl ⟨by rfl, ?_⟩) ?_ ?_
    rotate_left
    · intro w'
      go_simp
      with_reducible rfl
    rotate_left
    · simp only [Act.put, List.setIfInBounds_toArray, List.set_cons_zero, List.set_cons_succ, i64_w, i32_w]
      rfl
    refine pure_ (i := 11) (N := some 224) (v := undef) (a' := ?_) #[true, true, true, true, true, true, true, true, true, true, true, true, false, false, false, false, false, false, false, false, false, false, false, false, false] rfl rfl (any_of HT_.out (by kernel_rfl)) (fun _ _ _ h => h) (Or.inr ⟨by rfl, rfl⟩) ?_ ?_
    rotate_left
    · simp only [Act.put, List.setIfInBounds_toArray, List.set_cons_zero, List.set_cons_succ, i64_w, i32_w]
      rfl
    refine pure_ (i := 12) (N := some 225) (v := undef) (a' := ?_) #[true, true, true, true, true, true, true, true, true, true, true, true, true, false, false, false, false, false, false, false, false, false, false, false, false] rfl rfl (any_of HT_.out (by kernel_rfl)) (fun _ _ _ h => h) (Or.inr ⟨by rfl, rfl⟩) ?_ ?_
    rotate_left
    · simp only [Act.put, List.setIfInBounds_toArray, List.set_cons_zero, List.set_cons_succ, i64_w, i32_w]
      rfl
    refine pure_ (i := 13) (N := some 226) (v := undef) (a' := ?_) #[true, true, true, true, true, true, true, true, true, true, true, true, true, true, false, false, false, false, false, false, false, false, false, false, false] rfl rfl (any_of HT_.out (by kernel_rfl)) (fun _ _ _ h => h) (Or.inr ⟨by rfl, rfl⟩) ?_ ?_
    rotate_left
    · simp only [Act.put, List.setIfInBounds_toArray, List.set_cons_zero, List.set_cons_succ, i64_w, i32_w]
      rfl
    refine pure_ (i := 14) (N := some 227) (v := undef) (a' := ?_) #[true, true, true, true, true, true, true, true, true, true, true, true, true, true, true, false, false, false, false, false, false, false, false, false, false] rfl rfl (any_of HT_.out (by kernel_rfl)) (fun _ _ _ h => h) (Or.inr ⟨by rfl, rfl⟩) ?_ ?_
    rotate_left
    · simp only [Act.put, List.setIfInBounds_toArray, List.set_cons_zero, List.set_cons_succ, i64_w, i32_w]
      rfl
    refine pure_ (i := 15) (N := some 228) (v := undef) (a' := ?_) #[true, true, true, true, true, true, true, true, true, true, true, true, true, true, true, true, false, false, false, false, false, false, false, false, false] rfl rfl (any_of HT_.out (by kernel_rfl)) (fun _ _ _ h => h) (Or.inr ⟨by rfl, rfl⟩) ?_ ?_
    rotate_left
    · simp only [Act.put, List.setIfInBounds_toArray, List.set_cons_zero, List.set_cons_succ, i64_w, i32_w]
      rfl
    refine pure_ (i := 16) (N := some 229) (v := undef) (a' := ?_) #[true, true, true, true, true, true, true, true, true, true, true, true, true, true, true, true, true, false, false, false, false, false, false, false, false] rfl rfl (any_of HT_.out (by kernel_rfl)) (fun _ _ _ h => h) (Or.inr ⟨by rfl, rfl⟩) ?_ ?_
    rotate_left
    · simp only [Act.put, List.setIfInBounds_toArray, List.set_cons_zero, List.set_cons_succ, i64_w, i32_w]
      rfl
    refine pure_ (i := 17) (N := some 230) (v := undef) (a' := ?_) #[true, true, true, true, true, true, true, true, true, true, true, true, true, true, true, true, true, true, false, false, false, false, false, false, false] rfl rfl (any_of HT_.out (by kernel_rfl)) (fun _ _ _ h => h) (Or.inr ⟨by rfl, rfl⟩) ?_ ?_
    rotate_left
    · simp only [Act.put, List.setIfInBounds_toArray, List.set_cons_zero, List.set_cons_succ, i64_w, i32_w]
      rfl
    refine pure_ (i := 18) (N := some 231) (v := undef) (a' := ?_) #[true, true, true, true, true, true, true, true, true, true, true, true, true, true, true, true, true, true, true, false, false, false, false, false, false] rfl rfl (any_of HT_.out (by kernel_rfl)) (fun _ _ _ h => h) (Or.inr ⟨by rfl, rfl⟩) ?_ ?_
    rotate_left
    · simp only [Act.put, List.setIfInBounds_toArray, List.set_cons_zero, List.set_cons_succ, i64_w, i32_w]
      rfl
    refine pure_ (i := 19) (N := some 232) (v := undef) (a' := ?_) #[true, true, true, true, true, true, true, true, true, true, true, true, true, true, true, true, true, true, true, true, false, false, false, false, false] rfl rfl (any_of HT_.out (by kernel_rfl)) (fun _ _ _ h => h) (Or.inr ⟨by rfl, rfl⟩) ?_ ?_
    rotate_left
    · simp only [Act.put, List.setIfInBounds_toArray, List.set_cons_zero, List.set_cons_succ, i64_w, i32_w]
      rfl
    refine pure_ (i := 20) (N := some 233) (v := undef) (a' := ?_) #[true, true, true, true, true, true, true, true, true, true, true, true, true, true, true, true, true, true, true, true, true, false, false, false, false] rfl rfl (any_of HT_.out (by kernel_rfl)) (fun _ _ _ h => h) (Or.inr ⟨by rfl, rfl⟩) ?_ ?_
    rotate_left
    · simp only [Act.put, List.setIfInBounds_toArray, List.set_cons_zero, List.set_cons_succ, i64_w, i32_w]
      rfl
    refine pure_ (i := 21) (N := some 234) (v := undef) (a' := ?_) #[true, true, true, true, true, true, true, true, true, true, true, true, true, true, true, true, true, true, true, true, true, true, false, false, false] rfl rfl (any_of HT_.out (by kernel_rfl)) (fun _ _ _ h => h) (Or.inr ⟨by rfl, rfl⟩) ?_ ?_
    rotate_left
    · simp only [Act.put, List.setIfInBounds_toArray, List.set_cons_zero, List.set_cons_succ, i64_w, i32_w]
      rfl
    refine pure_ (i := 22) (N := some 235) (v := ?_) (a' := ?_) #[true, true, true, true, true, true, true, true, true, true, true, true, true, true, true, true, true, true, true, true, true, true, true, false, false] rfl rfl (any_of HT_.out (by kernel_rfl)) (fun _ _ _ h => h) (Or.inl ⟨by rfl, ?_⟩) ?_ ?_
    rotate_left
    · intro w'
      go_simp
      with_reducible rfl
    rotate_left
    · simp only [Act.put, List.setIfInBounds_toArray, List.set_cons_zero, List.set_cons_succ, i64_w, i32_w]
      rfl
    refine pure_ (i := 23) (N := some 236) (v := ?_) (a' := ?_) #[true, true, true, true, true, true, true, true, true, true, true, true, true, true, true, true, true, true, true, true, true, true, true, true, false] rfl rfl (any_of HT_.out (by kernel_rfl)) (fun _ _ _ h => h) (Or.inl ⟨by rfl, ?_⟩) ?_ ?_
    rotate_left
    · intro w'
      go_simp
      with_reducible rfl
    rotate_left
    · simp only [Act.put, List.setIfInBounds_toArray, List.set_cons_zero, List.set_cons_succ, i64_w, i32_w]
      rfl
    refine pure_ (i := 24) (N := some 6) (v := ?_) (a' := ?_) #[true, true, true, true, true, true, true, true, true, true, true, true, true, true, true, true, true, true, true, true, true, true, true, true, true] rfl rfl (any_of HT_.out (by kernel_rfl)) (fun _ _ _ h => h) (Or.inl ⟨by rfl, ?_⟩) ?_ ?_
    rotate_left
    · intro w'
      go_simp
      with_reducible rfl
    rotate_left
    · simp only [Act.put, List.setIfInBounds_toArray, List.set_cons_zero, List.set_cons_succ, i64_w, i32_w]
      rfl
    refine done_ (done_of HT_.out (by kernel_rfl)) ?_
    try go_wp2
    go_ret
    exact ⟨rfl, HL.out.aw.bel.trans (HBB.out.mono HL.out.aw.bel.size)⟩
  · have HM0 := Aside0.mk (show W.cell? ⟨gb, 0, none⟩ = some (.slice A2 mc.length c2) from (blk_cell hL.aw.bx 0).trans rfl)
    have HM1 := Aside0.mk (show W.cell? ⟨gb, 1, none⟩ = some (.int .i64 mm) from (blk_cell hL.aw.bx 1).trans rfl)
    have PP := Aside0.mk (p2 (fun c hc => by have := of_decide_eq_true hsm; rw [List.take_length] at this; exact this.2.2 c hc) (by have := of_decide_eq_true hsm; exact ⟨this.1, this.2.1⟩))
    have HR0 := Aside0.mk hr0
    have HR2 := Aside0.mk hr2
    have HC2 := Aside0.mk hc2
    have H10 := Aside0.mk h10
    have HXL := Aside0.mk hXl
    have HCX := Aside0.mk hcx
    have HTL := Aside0.mk (show ts.length ≤ 1000 by omega)
    clear p1 p2 hL hr0 hc0 hr2 hc2 htl hXl hct hcx h10
    go_wp2_with fail
    have HBB := Aside0.mk (Below.drew (Below.refl W.heap.size W))
    refine start_ (n := 25) (S := fun x => True) (ds := []) #[false, false, false, false, false, false, false, false, false, false, false, false, false, false, false, false, false, false, false, false, false, false, false, false, false] (by kernel_rfl) rfl rfl trivial (fun hHeld => ?_)
    refine with_tabW R32tab R32bits (fun HT_ HW_ => ?_)
    generalize W.drew = w20 at HBB hHeld ⊢
    refine one_ (i := 0) (N := some 213) #[true, false, false, false, false, false, false, false, false, false, false, false, false, false, false, false, false, false, false, false, false, false, false, false, false] rfl rfl (one_of HT_.out (by kernel_rfl)) (by decide) (fun K hK => ?_)
    refine goes_ Try.func10 (by kernel_rfl) rfl #[] (by rfl) rfl rfl (by (try simp only [List.map_toArray, List.map_cons, List.map_nil]); first | done | rfl) ?_
    refine (HAW.out _).mono ?_
    rintro e w20 ⟨rfl, hb⟩
    refine ⟨_, rfl, ?_⟩
    have n1_ := Aside0.mk (below_step HBB.out hb)
    clear HBB hb
    have HBB := n1_
    clear n1_
    refine hK.out _ _ trivial (fun hHeld => ?_)
    clear hK K
    refine norm_ (a' := ?_) ?_ ?_
    rotate_left
    · show Act.put _ (some 213) _ = _
      simp only [Act.put, List.setIfInBounds_toArray, List.set_cons_zero, List.set_cons_succ, i64_w, i32_w]
      rfl
    refine pure_ (i := 1) (N := some 214) (v := ?_) (a' := ?_) #[true, true, false, false, false, false, false, false, false, false, false, false, false, false, false, false, false, false, false, false, false, false, false, false, false] rfl rfl (any_of HT_.out (by kernel_rfl)) (fun _ _ _ h => h) (Or.inl ⟨by rfl, ?_⟩) ?_ ?_
    rotate_left
    · intro w'
      go_simp
      with_reducible rfl
    rotate_left
    · simp only [Act.put, List.setIfInBounds_toArray, List.set_cons_zero, List.set_cons_succ, i64_w, i32_w]
      rfl
    refine pure_ (i := 2) (N := some 215) (v := ?_) (a' := ?_) #[true, true, true, false, false, false, false, false, false, false, false, false, false, false, false, false, false, false, false, false, false, false, false, false, false] rfl rfl (any_of HT_.out (by kernel_rfl)) (fun _ _ _ h => h) (Or.inl ⟨by rfl, ?_⟩) ?_ ?_
    rotate_left
    · intro w'
      go_simp
      with_reducible rfl
    rotate_left
    · simp only [Act.put, List.setIfInBounds_toArray, List.set_cons_zero, List.set_cons_succ, i64_w, i32_w]
      rfl
    refine pure_ (i := 3) (N := some 216) (v := ?_) (a' := ?_) #[true, true, true, true, false, false, false, false, false, false, false, false, false, false, false, false, false, false, false, false, false, false, false, false, false] rfl rfl (any_of HT_.out (by kernel_rfl)) (fun _ _ _ h => h) (Or.inl ⟨by rfl, ?_⟩) ?_ ?_
    rotate_left
    · intro w'
      go_simp
      with_reducible rfl
    rotate_left
    · simp only [Act.put, List.setIfInBounds_toArray, List.set_cons_zero, List.set_cons_succ, i64_w, i32_w]
      rfl
    refine one_ (i := 4) (N := some 217) #[true, true, true, true, true, false, false, false, false, false, false, false, false, false, false, false, false, false, false, false, false, false, false, false, false] rfl rfl (one_of HT_.out (by kernel_rfl)) (by decide) (fun K hK => ?_)
    have q0 := keepc HBB.out HX0.out
    have q1 := keepc HBB.out HX1.out
    refine value_ (w1 := w20) (v := .agg #[.slice Ax mc.length cx, .int .i64 M]) (by rfl) rfl ?_ ?_
    · go_simp
      try rfl
    clear q0 q1
    refine hK.out _ _ trivial (fun hHeld => ?_)
    clear hK K
    refine norm_ (a' := ?_) ?_ ?_
    rotate_left
    · show Act.put _ (some 217) _ = _
      simp only [Act.put, List.setIfInBounds_toArray, List.set_cons_zero, List.set_cons_succ, i64_w, i32_w]
      rfl
    refine one_ (i := 5) (N := some 218) #[true, true, true, true, true, true, false, false, false, false, false, false, false, false, false, false, false, false, false, false, false, false, false, false, false] rfl rfl (one_of HT_.out (by kernel_rfl)) (by decide) (fun K hK => ?_)
    refine goes_ Try.func14 (by kernel_rfl) rfl #[.slice A0 l0.length c0, .slice At ts.length ct, .agg #[.slice Ax mc.length cx, .int .i64 M]] (by rfl) rfl rfl (by (try simp only [List.map_toArray, List.map_cons, List.map_nil]); first | done | rfl) ?_
    refine (PR.out _ HBB.out).mono ?_
    rintro e w25 ⟨rfl, hb⟩
    refine ⟨_, rfl, ?_⟩
    have n1_ := Aside0.mk (below_step HBB.out hb)
    clear HBB hb
    have HBB := n1_
    clear n1_
    refine hK.out _ _ trivial (fun hHeld => ?_)
    clear hK K
    refine norm_ (a' := ?_) ?_ ?_
    rotate_left
    · show Act.put _ (some 218) _ = _
      simp only [Act.put, List.setIfInBounds_toArray, List.set_cons_zero, List.set_cons_succ, i64_w, i32_w]
      rfl
    refine pure_ (i := 6) (N := some 219) (v := ?_) (a' := ?_) #[true, true, true, true, true, true, true, false, false, false, false, false, false, false, false, false, false, false, false, false, false, false, false, false, false] rfl rfl (any_of HT_.out (by kernel_rfl)) (fun _ _ _ h => h) (Or.inl ⟨by rfl, ?_⟩) ?_ ?_
    rotate_left
    · intro w'
      go_simp
      with_reducible rfl
    rotate_left
    · simp only [Act.put, List.setIfInBounds_toArray, List.set_cons_zero, List.set_cons_succ, i64_w, i32_w]
      rfl
    refine pure_ (i := 7) (N := some 220) (v := ?_) (a' := ?_) #[true, true, true, true, true, true, true, true, false, false, false, false, false, false, false, false, false, false, false, false, false, false, false, false, false] rfl rfl (any_of HT_.out (by kernel_rfl)) (fun _ _ _ h => h) (Or.inl ⟨by rfl, ?_⟩) ?_ ?_
    rotate_left
    · intro w'
      go_simp
      with_reducible rfl
    rotate_left
    · simp only [Act.put, List.setIfInBounds_toArray, List.set_cons_zero, List.set_cons_succ, i64_w, i32_w]
      rfl
    refine pure_ (i := 8) (N := some 221) (v := ?_) (a' := ?_) #[true, true, true, true, true, true, true, true, true, false, false, false, false, false, false, false, false, false, false, false, false, false, false, false, false] rfl rfl (any_of HT_.out (by kernel_rfl)) (fun _ _ _ h => h) (Or.inl ⟨by rfl, ?_⟩) ?_ ?_
    rotate_left
    · intro w'
      go_simp
      with_reducible rfl
    rotate_left
    · simp only [Act.put, List.setIfInBounds_toArray, List.set_cons_zero, List.set_cons_succ, i64_w, i32_w]
      rfl
    refine pure_ (i := 9) (N := some 222) (v := ?_) (a' := ?_) #[true, true, true, true, true, true, true, true, true, true, false, false, false, false, false, false, false, false, false, false, false, false, false, false, false] rfl rfl (any_of HT_.out (by kernel_rfl)) (fun _ _ _ h => h) (Or.inl ⟨by rfl, ?_⟩) ?_ ?_
    rotate_left
    · intro w'
      go_simp
      with_reducible rfl
    rotate_left
    · simp only [Act.put, List.setIfInBounds_toArray, List.set_cons_zero, List.set_cons_succ, i64_w, i32_w]
      rfl
    refine pure_ (i := 10) (N := some 223) (v := ?_) (a' := ?_) #[true, true, true, true, true, true, true, true, true, true, true, false, false, false, false, false, false, false, false, false, false, false, false, false, false] rfl rfl (any_of HT_.out (by kernel_rfl)) (fun _ _ _ h => h) (Or.inl ⟨by rfl, ?_⟩) ?_ ?_
    rotate_left
    · intro w'
      go_simp
      with_reducible rfl
    rotate_left
    · simp only [Act.put, List.setIfInBounds_toArray, List.set_cons_zero, List.set_cons_succ, i64_w, i32_w]
      rfl
    refine pure_ (i := 12) (N := some 225) (v := ?_) (a' := ?_) #[true, true, true, true, true, true, true, true, true, true, true, false, true, false, false, false, false, false, false, false, false, false, false, false, false] rfl rfl (any_of HT_.out (by kernel_rfl)) (fun _ _ _ h => h) (Or.inl ⟨by rfl, ?_⟩) ?_ ?_
    rotate_left
    · intro w'
      go_simp
      with_reducible rfl
    rotate_left
    · simp only [Act.put, List.setIfInBounds_toArray, List.set_cons_zero, List.set_cons_succ, i64_w, i32_w]
      rfl
    refine pure_ (i := 17) (N := some 230) (v := ?_) (a' := ?_) #[true, true, true, true, true, true, true, true, true, true, true, false, true, false, false, false, false, true, false, false, false, false, false, false, false] rfl rfl (any_of HT_.out (by kernel_rfl)) (fun _ _ _ h => h) (Or.inl ⟨by rfl, ?_⟩) ?_ ?_
    rotate_left
    · intro w'
      go_simp
      with_reducible rfl
    rotate_left
    · simp only [Act.put, List.setIfInBounds_toArray, List.set_cons_zero, List.set_cons_succ, i64_w, i32_w]
      rfl
    have HL0 := Aside0.mk (show LR w W gb gx A2 c2 mc mm (.slice At ts.length ct) (.slice Ax mc.length cx) l0 ts X M (fun _ => false) undef undef undef undef undef undef w25 from lr_start HL.out HBB.out)
    clear HBB hHeld HX0 HX1 HM0 HM1 PR HAW
    refine inv_at [11, 13, 14, 15, 16, 18, 19, 20, 21, 22, 23, 24] (fun a0_ b a w' => ∃ v11 v13 v15 v16 v18 v19 : Value, a = putSel a0_ b [(11, 224, v11), (13, 226, v13), (14, 227, .agg #[.slice A2 mc.length c2, .int .i64 mm]), (15, 228, v15), (16, 229, v16), (18, 231, v18), (19, 232, v19), (20, 233, .agg #[.slice Ax mc.length cx, .int .i64 M]), (21, 234, .bool true), (22, 235, .bool true), (23, 236, .bool true), (24, 6, .bool true)] ∧ Aside0 (LR w W gb gx A2 c2 mc mm (.slice At ts.length ct) (.slice Ax mc.length cx) l0 ts X M b v11 v13 v15 v16 v18 v19 w')) HT_.out HW_.out (by kernel_rfl) (by kernel_rfl) ?_ ?_ ?_
    · exact ⟨undef, undef, undef, undef, undef, undef, by simp only [putSel, Bool.false_eq_true, if_false], HL0⟩
    · clear HL0
      refine steps_cons ?_ ?_
      · rintro b a w' ⟨v11, v13, v15, v16, v18, v19, ha, HL1⟩ hb_ hon hoff
        refine ⟨_, rfl, fun K hK => ?_⟩
        have e223 : a.tmps[223]? = some (.bool false) := by rw [ha]; exact (putSel_off rfl).trans rfl
        replace ha := Aside0.mk ha
        refine value_ (w1 := w'.alloc (.cells #[] 27)) (v := .slice (some ⟨w'.heap.size, 0, none⟩) 0 0) (wanted_on rfl rfl rfl (e223.trans (by first | rfl | simp))) rfl ?_ ?_
        · go_simp
          try rfl
        refine hK.out _ _ ⟨_, v13, v15, v16, v18, v19, (by rw [ha.out]; exact putSel_upk 0 hb_ rfl rfl rfl), ⟨HL1.out.s11 (hoff 13 (by kernel_rfl))⟩⟩
      refine steps_cons ?_ ?_
      · rintro b a w' ⟨v11, v13, v15, v16, v18, v19, ha, HL1⟩ hb_ hon hoff
        refine ⟨_, rfl, fun K hK => ?_⟩
        have e223 : a.tmps[223]? = some (.bool false) := by rw [ha]; exact (putSel_off rfl).trans rfl
        have e224 : a.tmps[224]? = some (v11) := by rw [ha]; exact putSel_on (e := (11, 224, v11)) 0 rfl rfl (hon 11 (by kernel_rfl)) rfl
        have e225 : a.tmps[225]? = some (.slice A0 l0.length c0) := by rw [ha]; exact (putSel_off rfl).trans rfl
        replace ha := Aside0.mk ha
        refine step_append_w (wanted_on rfl rfl rfl (e223.trans (by first | rfl | simp))) rfl (eval_of e224) (eval_of e225) (HL1.out.s13 (hon 11 (by kernel_rfl)) hb_ (hoff 16 (by kernel_rfl)) A0 c0 HR0.out H10.out _) ?_
        intro r W1 hR
        refine hK.out _ _ ⟨v11, r, v15, v16, v18, v19, (by rw [ha.out]; exact putSel_upk 1 hb_ rfl rfl rfl), ⟨hR⟩⟩
      refine steps_cons ?_ ?_
      · rintro b a w' ⟨v11, v13, v15, v16, v18, v19, ha, HL1⟩ hb_ hon hoff
        refine ⟨_, rfl, fun K hK => ?_⟩
        have e223 : a.tmps[223]? = some (.bool false) := by rw [ha]; exact (putSel_off rfl).trans rfl
        have e5 : a.tmps[5]? = some (.pointer (some ⟨gb, 0, none⟩)) := by rw [ha]; exact (putSel_off rfl).trans rfl
        replace ha := Aside0.mk ha
        have q0 := (blk_cell HL1.out.gbb 0).trans rfl
        have q1 := (blk_cell HL1.out.gbb 1).trans rfl
        refine value_ (w1 := w') (v := .agg #[.slice A2 mc.length c2, .int .i64 mm]) (wanted_on rfl rfl rfl (e223.trans (by first | rfl | simp))) rfl ?_ ?_
        · go_simp
          try rfl
        clear q0 q1
        refine hK.out _ _ ⟨v11, v13, v15, v16, v18, v19, (by rw [ha.out]; exact putSel_upk 2 hb_ rfl rfl rfl), ⟨HL1.out.s14⟩⟩
      refine steps_cons ?_ ?_
      · rintro b a w' ⟨v11, v13, v15, v16, v18, v19, ha, HL1⟩ hb_ hon hoff
        refine ⟨_, rfl, fun K hK => ?_⟩
        have e223 : a.tmps[223]? = some (.bool false) := by rw [ha]; exact (putSel_off rfl).trans rfl
        have e227 : a.tmps[227]? = some (.agg #[.slice A2 mc.length c2, .int .i64 mm]) := by rw [ha]; exact putSel_on (e := (14, 227, .agg #[.slice A2 mc.length c2, .int .i64 mm])) 2 rfl rfl (hon 14 (by kernel_rfl)) rfl
        replace ha := Aside0.mk ha
        refine value_ (w1 := w'.alloc (.cells #[.slice A2 mc.length c2, .int .i64 mm] 27)) (v := .slice (some ⟨w'.heap.size, 0, none⟩) 1 1) (wanted_on rfl rfl rfl (e223.trans (by first | rfl | simp))) rfl ?_ ?_
        · go_simp
          try rfl
        refine hK.out _ _ ⟨v11, v13, _, v16, v18, v19, (by rw [ha.out]; exact putSel_upk 3 hb_ rfl rfl rfl), ⟨HL1.out.s15 (hoff 16 (by kernel_rfl))⟩⟩
      refine steps_cons ?_ ?_
      · rintro b a w' ⟨v11, v13, v15, v16, v18, v19, ha, HL1⟩ hb_ hon hoff
        refine ⟨_, rfl, fun K hK => ?_⟩
        have e223 : a.tmps[223]? = some (.bool false) := by rw [ha]; exact (putSel_off rfl).trans rfl
        have e226 : a.tmps[226]? = some (v13) := by rw [ha]; exact putSel_on (e := (13, 226, v13)) 1 rfl rfl (hon 13 (by kernel_rfl)) rfl
        have e228 : a.tmps[228]? = some (v15) := by rw [ha]; exact putSel_on (e := (15, 228, v15)) 3 rfl rfl (hon 15 (by kernel_rfl)) rfl
        replace ha := Aside0.mk ha
        refine step_append_w (wanted_on rfl rfl rfl (e223.trans (by first | rfl | simp))) rfl (eval_of e226) (eval_of e228) (HL1.out.s16 (hon 13 (by kernel_rfl)) (hon 15 (by kernel_rfl)) hb_ HR2.out HC2.out H10.out _) ?_
        intro r W1 hR
        refine hK.out _ _ ⟨v11, v13, v15, r, v18, v19, (by rw [ha.out]; exact putSel_upk 4 hb_ rfl rfl rfl), ⟨hR⟩⟩
      refine steps_cons ?_ ?_
      · rintro b a w' ⟨v11, v13, v15, v16, v18, v19, ha, HL1⟩ hb_ hon hoff
        refine ⟨_, rfl, fun K hK => ?_⟩
        have e223 : a.tmps[223]? = some (.bool false) := by rw [ha]; exact (putSel_off rfl).trans rfl
        replace ha := Aside0.mk ha
        refine value_ (w1 := w'.alloc (.cells #[.int .i64 0] 3)) (v := .slice (some ⟨w'.heap.size, 0, none⟩) 1 1) (wanted_on rfl rfl rfl (e223.trans (by first | rfl | simp))) rfl ?_ ?_
        · go_simp
          try rfl
        refine hK.out _ _ ⟨v11, v13, v15, v16, _, v19, (by rw [ha.out]; exact putSel_upk 5 hb_ rfl rfl rfl), ⟨HL1.out.s18⟩⟩
      refine steps_cons ?_ ?_
      · rintro b a w' ⟨v11, v13, v15, v16, v18, v19, ha, HL1⟩ hb_ hon hoff
        refine ⟨_, rfl, fun K hK => ?_⟩
        have e223 : a.tmps[223]? = some (.bool false) := by rw [ha]; exact (putSel_off rfl).trans rfl
        have e230 : a.tmps[230]? = some (.slice At ts.length ct) := by rw [ha]; exact (putSel_off rfl).trans rfl
        have e231 : a.tmps[231]? = some (v18) := by rw [ha]; exact putSel_on (e := (18, 231, v18)) 5 rfl rfl (hon 18 (by kernel_rfl)) rfl
        replace ha := Aside0.mk ha
        refine step_append_w (wanted_on rfl rfl rfl (e223.trans (by first | rfl | simp))) rfl (eval_of e230) (eval_of e231) (HL1.out.s19 (hon 18 (by kernel_rfl)) hb_ HTL.out _) ?_
        intro r W1 hR
        refine hK.out _ _ ⟨v11, v13, v15, v16, v18, r, (by rw [ha.out]; exact putSel_upk 6 hb_ rfl rfl rfl), ⟨hR⟩⟩
      refine steps_cons ?_ ?_
      · rintro b a w' ⟨v11, v13, v15, v16, v18, v19, ha, HL1⟩ hb_ hon hoff
        refine ⟨_, rfl, fun K hK => ?_⟩
        have e223 : a.tmps[223]? = some (.bool false) := by rw [ha]; exact (putSel_off rfl).trans rfl
        have e12 : a.tmps[12]? = some (.pointer (some ⟨gx, 0, none⟩)) := by rw [ha]; exact (putSel_off rfl).trans rfl
        replace ha := Aside0.mk ha
        have q0 := (blk_cell HL1.out.sx.bx 0).trans rfl
        have q1 := (blk_cell HL1.out.sx.bx 1).trans rfl
        refine value_ (w1 := w') (v := .agg #[.slice Ax mc.length cx, .int .i64 M]) (wanted_on rfl rfl rfl (e223.trans (by first | rfl | simp))) rfl ?_ ?_
        · go_simp
          try rfl
        clear q0 q1
        refine hK.out _ _ ⟨v11, v13, v15, v16, v18, v19, (by rw [ha.out]; exact putSel_upk 7 hb_ rfl rfl rfl), ⟨HL1.out.s14⟩⟩
      refine steps_cons ?_ ?_
      · rintro b a w' ⟨v11, v13, v15, v16, v18, v19, ha, HL1⟩ hb_ hon hoff
        refine ⟨_, rfl, fun K hK => ?_⟩
        have e223 : a.tmps[223]? = some (.bool false) := by rw [ha]; exact (putSel_off rfl).trans rfl
        have e229 : a.tmps[229]? = some (v16) := by rw [ha]; exact putSel_on (e := (16, 229, v16)) 4 rfl rfl (hon 16 (by kernel_rfl)) rfl
        have e232 : a.tmps[232]? = some (v19) := by rw [ha]; exact putSel_on (e := (19, 232, v19)) 6 rfl rfl (hon 19 (by kernel_rfl)) rfl
        have e233 : a.tmps[233]? = some (.agg #[.slice Ax mc.length cx, .int .i64 M]) := by rw [ha]; exact putSel_on (e := (20, 233, .agg #[.slice Ax mc.length cx, .int .i64 M])) 7 rfl rfl (hon 20 (by kernel_rfl)) rfl
        replace ha := Aside0.mk ha
        obtain ⟨A, c, A', c', rfl, hCl, hlc, rfl, hCt, hct⟩ := HL1.out.reads (hon 16 (by kernel_rfl)) (hon 19 (by kernel_rfl))
        have hCx : Kd.C (Kd.int .i64) w' Ax mc.length X := HXL.out ▸ HL1.out.sx.C HXL.out
        have hc9 := lin_Proves.calls 100000 A c _ A' c' _ Ax cx X M true w' hCl hlc hCt hct (HL1.out.sx.C HXL.out) HCX.out PP.out
        rw [HXL.out] at hc9
        refine goes_ Try.func14 (by kernel_rfl) rfl #[.slice A (l0 ++ [(⟨mc, mm⟩ : S27)]).length c, .slice A' (ts ++ [0]).length c', .agg #[.slice Ax mc.length cx, .int .i64 M]] (wanted_on rfl rfl rfl (e223.trans (by first | rfl | simp))) rfl rfl (by (try simp only [List.map_toArray, List.map_cons, List.map_nil]); rw [eval_of e229, eval_of e232, eval_of e233]) ?_
        refine hc9.mono ?_
        rintro e w6 ⟨rfl, hb⟩
        refine ⟨_, rfl, ?_⟩
        refine hK.out _ _ ⟨v11, v13, v15, _, v18, _, (by rw [ha.out]; exact putSel_upk 8 hb_ rfl rfl rfl), ⟨(HL1.out.below hb).upto 21 (by omega)⟩⟩
      refine steps_cons ?_ ?_
      · rintro b a w' ⟨v11, v13, v15, v16, v18, v19, ha, HL1⟩ hb_ hon hoff
        refine ⟨_, rfl, fun K hK => ?_⟩
        have e220 : a.tmps[220]? = some (.bool true) := by rw [ha]; exact (putSel_off rfl).trans rfl
        have e223 : a.tmps[223]? = some (.bool false) := by rw [ha]; exact (putSel_off rfl).trans rfl
        have e234 : a.tmps[234]? = some (.bool true) := by rw [ha]; exact putSel_on (e := (21, 234, .bool true)) 8 rfl rfl (hon 21 (by kernel_rfl)) rfl
        replace ha := Aside0.mk ha
        refine value_ (w1 := w') (v := .bool true) (wanted_on rfl rfl rfl (e220.trans (by first | rfl | simp))) rfl ?_ ?_
        · go_simp
          try rfl
        refine hK.out _ _ ⟨v11, v13, v15, v16, v18, v19, (by rw [ha.out]; exact putSel_upk 9 hb_ rfl rfl rfl), ⟨HL1.out.upto 22 (by omega)⟩⟩
      refine steps_cons ?_ ?_
      · rintro b a w' ⟨v11, v13, v15, v16, v18, v19, ha, HL1⟩ hb_ hon hoff
        refine ⟨_, rfl, fun K hK => ?_⟩
        have e220 : a.tmps[220]? = some (.bool true) := by rw [ha]; exact (putSel_off rfl).trans rfl
        have e235 : a.tmps[235]? = some (.bool true) := by rw [ha]; exact putSel_on (e := (22, 235, .bool true)) 9 rfl rfl (hon 22 (by kernel_rfl)) rfl
        replace ha := Aside0.mk ha
        refine value_ (w1 := w') (v := .bool true) (by rfl) rfl ?_ ?_
        · go_simp
          try rfl
        refine hK.out _ _ ⟨v11, v13, v15, v16, v18, v19, (by rw [ha.out]; exact putSel_upk 10 hb_ rfl rfl rfl), ⟨HL1.out.upto 23 (by omega)⟩⟩
      refine steps_cons ?_ ?_
      · rintro b a w' ⟨v11, v13, v15, v16, v18, v19, ha, HL1⟩ hb_ hon hoff
        refine ⟨_, rfl, fun K hK => ?_⟩
        have e236 : a.tmps[236]? = some (.bool true) := by rw [ha]; exact putSel_on (e := (23, 236, .bool true)) 10 rfl rfl (hon 23 (by kernel_rfl)) rfl
        replace ha := Aside0.mk ha
        refine value_ (w1 := w') (v := .bool true) (by rfl) rfl ?_ ?_
        · go_simp
          try rfl
        refine hK.out _ _ ⟨v11, v13, v15, v16, v18, v19, (by rw [ha.out]; exact putSel_upk 11 hb_ rfl rfl rfl), ⟨HL1.out.upto 24 (by omega)⟩⟩
      exact steps_nil
    · rintro b a w' hall ⟨v11, v13, v15, v16, v18, v19, ha, HL1⟩
      have hb11_ := hall 11 (by kernel_rfl)
      have hb13_ := hall 13 (by kernel_rfl)
      have hb14_ := hall 14 (by kernel_rfl)
      have hb15_ := hall 15 (by kernel_rfl)
      have hb16_ := hall 16 (by kernel_rfl)
      have hb18_ := hall 18 (by kernel_rfl)
      have hb19_ := hall 19 (by kernel_rfl)
      have hb20_ := hall 20 (by kernel_rfl)
      have hb21_ := hall 21 (by kernel_rfl)
      have hb22_ := hall 22 (by kernel_rfl)
      have hb23_ := hall 23 (by kernel_rfl)
      have hb24_ := hall 24 (by kernel_rfl)
      subst ha
      simp only [putSel, hb11_, hb13_, hb14_, hb15_, hb16_, hb18_, hb19_, hb20_, hb21_, hb22_, hb23_, hb24_, if_true, Act.put, List.setIfInBounds_toArray, List.set_cons_zero, List.set_cons_succ]
      clear hall hb11_ hb13_ hb14_ hb15_ hb16_ hb18_ hb19_ hb20_ hb21_ hb22_ hb23_ hb24_
      try go_wp2
      go_ret
      exact ⟨rfl, HL1.out.bel⟩
end Go.Proofs.Ythfkajolockcgaa.Adds
