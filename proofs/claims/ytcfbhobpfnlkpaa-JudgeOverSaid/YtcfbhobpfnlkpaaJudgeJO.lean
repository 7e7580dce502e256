/- The walk of judge.Over. -/
import Derived.Test.YtcfbhobpfnlkpaaJudgeJX
namespace Go.Proofs.Ytcfbhobpfnlkpaa.Flow
open Go.RowKit Go.Proofs.Ytcfbhobpfnlkpaa.QJudgeFound Go.Proofs.YtcfbhobpfnlkpaaW.PrintWords Go.Proofs.YtcfbhobpfnlkpaaW.PrintLast Go.Proofs.Ytcfbhobpfnlkpaa.Chain
set_option linter.unusedVariables false
set_option linter.unusedSimpArgs false
def shp (s : S44) : Shp := (s.f0, s.f1)
def mps (x : List (List S44)) : List (List Shp) := x.map (fun l => l.map shp)
theorem shA_map (u : List S44) (i : Nat) : shA (u.map shp) i = shp (rd_T44 u (i : Int)) := by
  unfold shA rd_T44
  rw [List.getD_eq_getElem?_getD, List.getD_eq_getElem?_getD, List.getElem?_map, Int.toNat_natCast]
  cases u[i]? <;> rfl
theorem mpA_mps (x : List (List S44)) (f : Nat) : mpA (mps x) f = (rd_L11 x (f : Int)).map shp := by
  unfold mpA mps rd_L11
  rw [List.getD_eq_getElem?_getD, List.getD_eq_getElem?_getD, List.getElem?_map, Int.toNat_natCast]
  cases x[f]? <;> rfl
theorem mps_len (x : List (List S44)) : (mps x).length = x.length := List.length_map _
def itemB (m : Im) (U V : List Shp) (i : Nat) : Bool := !(shA U i).1 || ((shA V i).1 && underV m.c (shA U i).2 (shA V i).2)
theorem leB_true {m : Im} {U V : List Shp} (hl : U.length = V.length) (h : ∀ j, j < U.length → itemB m U V j = true) : leB m U V = true := by
  unfold leB
  rw [decide_eq_true hl, Bool.true_and, List.all_eq_true]
  intro j hj
  exact h j (List.mem_range.1 hj)
theorem leB_false {m : Im} {U V : List Shp} {j : Nat} (hj : j < U.length) (h : itemB m U V j = false) : leB m U V = false := by
  cases hb : leB m U V with
  | false => rfl
  | true =>
    unfold leB at hb
    rw [Bool.and_eq_true, List.all_eq_true] at hb
    have := hb.2 j (List.mem_range.2 hj)
    unfold itemB at h
    rw [h] at this
    cases this
theorem leB_len {m : Im} {U V : List Shp} (h : U.length ≠ V.length) : leB m U V = false := by
  unfold leB
  rw [decide_eq_false h]
  rfl
theorem overB_true {m : Im} {X Y : List (List Shp)} (hl : X.length = Y.length) (h : ∀ j, j < X.length → leB m (mpA X j) (mpA Y j) = true) : overB m X Y = true := by
  unfold overB
  rw [decide_eq_true hl, Bool.true_and, List.all_eq_true]
  intro j hj
  exact h j (List.mem_range.1 hj)
theorem overB_false {m : Im} {X Y : List (List Shp)} {j : Nat} (hj : j < X.length) (h : leB m (mpA X j) (mpA Y j) = false) : overB m X Y = false := by
  cases hb : overB m X Y with
  | false => rfl
  | true =>
    unfold overB at hb
    rw [Bool.and_eq_true, List.all_eq_true] at hb
    have := hb.2 j (List.mem_range.2 hj)
    rw [h] at this
    cases this
theorem under_l (m : Im) (x y : List S39) (hl : x.length = y.length) (hx : x.length ≤ 9223372036854775807) : ∀ (d k i : Nat), d + m.c.length + 4 < k → i + d = x.length → judge_under.l0 k x y x.length i m.c m.s m.n m.m m.e m.sk m.hp = some (underV m.c (x.drop i) (y.drop i)) := by
  intro d
  induction d with
  | zero =>
    intro k i hk hi
    obtain ⟨k, rfl⟩ : ∃ n, k = n + 1 := ⟨k - 1, by omega⟩
    rw [judge_under.l0, List.drop_eq_nil_of_le (by omega), List.drop_eq_nil_of_le (by omega)]
    exact (if_neg (by omega)).trans rfl
  | succ d ih =>
    intro k i hk hi
    obtain ⟨k, rfl⟩ : ∃ n, k = n + 1 := ⟨k - 1, by omega⟩
    have h1 : i < x.length := by omega
    have h2 : i < y.length := by omega
    rw [judge_under.l0, List.drop_eq_getElem_cons h1, List.drop_eq_getElem_cons h2]
    refine (if_pos (by omega)).trans ((if_pos (by omega)).trans ((if_pos (by omega)).trans ((if_pos (by omega)).trans ?_)))
    rw [tt h1, tt h2, sub_val _ _ _ _ _ _ (by omega), inc_big h1 hx]
    unfold underV subT
    rw [Option.bind_some]
    by_cases hs : sub (sf m.c) m.c.length x[i].f0 x[i].f1 y[i].f0 y[i].f1 = true
    · rw [if_pos hs, hs, Bool.true_and]
      exact ih k (i + 1) (by omega) (by omega)
    · rw [if_neg hs]
      have : sub (sf m.c) m.c.length x[i].f0 x[i].f1 y[i].f0 y[i].f1 = false := by simpa using hs
      rw [this]
      rfl
theorem under_ne {cs : List S80} {x y : List S39} (h : x.length ≠ y.length) : underV cs x y = false := by
  cases hb : underV cs x y with
  | false => rfl
  | true => exact absurd (underV_len hb) h
theorem under_c {w : World} {a : IA} {m : Im} (hm : IC w a m) {A B : Option Addr} {c c' : Nat} {x y : List S39} (hx : Kd.C k39 w A x.length x) (hxc : x.length ≤ c) (hy : Kd.C k39 w B y.length y) (hyc : y.length ≤ c') {p : Bool} (hp : underV m.c x y = p) :
    Calls Try.prog 19 #[.agg #[.slice a.A0 m.c.length a.c0, .slice a.A1 m.s.length a.c1, .slice a.A2 m.n.length a.c2, .slice a.A3 m.m.length a.c3, .slice a.A4 m.e.length a.c4, .int .i64 m.sk, .int .i64 m.hp], .slice A x.length c, .slice B y.length c'] w fun e w' => e = .returned (.bool p) ∧ Below w.heap.size w w' := by
  subst hp
  refine judge_under.calls (x.length + m.c.length + 5) a.A0 a.c0 m.c a.A1 a.c1 m.s a.A2 a.c2 m.n a.A3 a.c3 m.m a.A4 a.c4 m.e m.sk m.hp A c x B c' y _ w hm.h0 hm.n0 hm.h1 hm.n1 hm.h2 hm.n2 hm.h3 hm.n3 hm.h4 hm.n4 hx hxc hy hyc ?_
  unfold judge_under.f
  by_cases hl : x.length = y.length
  · rw [if_pos (by omega)]
    have := under_l m x y hl (Kd.C_max hx) x.length (x.length + m.c.length + 5) 0 (by omega) (by omega)
    simpa using this
  · rw [if_neg (by omega), under_ne hl]
set_option maxHeartbeats 16000000 in
set_option maxRecDepth 100000 in
theorem over_c (a : IA) (m : Im) (A B : Option Addr) (ca cb : Nat) (x y : List (List S44)) (w : World) (hm : IC w a m) (hx : Kd.C (Kd.slice 44 k44) w A x.length x) (hxc : x.length ≤ ca) (hy : Kd.C (Kd.slice 44 k44) w B y.length y) (hyc : y.length ≤ cb) {p : Bool} (hp : overB m (mps x) (mps y) = p) :
    Calls Try.prog 11 #[.agg #[.slice a.A0 m.c.length a.c0, .slice a.A1 m.s.length a.c1, .slice a.A2 m.n.length a.c2, .slice a.A3 m.m.length a.c3, .slice a.A4 m.e.length a.c4, .int .i64 m.sk, .int .i64 m.hp], .slice A x.length ca, .slice B y.length cb] w fun e w' => e = .returned (.bool p) ∧ Below w.heap.size w w' := by
  obtain ⟨A0, A1, A2, A3, A4, c0, c1, c2, c3, c4⟩ := a
  have HM := Aside0.mk hm
  have HA := Aside0.mk hx
  have HB := Aside0.mk hy
  have HPP := Aside0.mk hp
  have hmx := Kd.C_max hx
  clear hm hx hy hp
  by_cases hl : x.length = y.length
  case neg =>
    have dl : ((x.length : Int) != (y.length : Int)) = true := bne_iff_ne.2 (by omega)
    have hpf : p = false := by
      rw [← HPP.out]
      unfold overB
      rw [mps_len, mps_len, decide_eq_false hl]
      rfl
    clear hl
    go_enter Try.func11, Try.ntmps11
    go_wp2_with fail
    go_ret
    exact ⟨by rw [hpf]; rfl, bel⟩
  have dl : ((x.length : Int) != (y.length : Int)) = false := by rw [hl]; exact bne_self_eq_false _
  have hle : x.length ≤ y.length := by omega
  have hge : y.length ≤ x.length := by omega
  have HLL := Aside0.mk hl
  clear hl
  go_enter Try.func11, Try.ntmps11
  go_wp2_with fail
  refine see (F := fun w0_ => Below w.heap.size w w0_ ∧ w0_.heap[w.heap.size]? = some (.cells #[.slice A0 m.c.length c0, .slice A1 m.s.length c1, .slice A2 m.n.length c2, .slice A3 m.m.length c3, .slice A4 m.e.length c4, .int .i64 m.sk, .int .i64 m.hp] 28 (0, 0))) _ ⟨bel, blk_new w _⟩ ?_
  rintro w0 ⟨hb0_, HX0⟩
  replace hb0_ := Aside0.mk hb0_
  replace HX0 := Aside0.mk HX0
  clear dl
  go_loopg [17] (x.length + 1) (fun kq v17 w' => ∃ k : Nat, v17 = .int .i64 (k : Int) ∧ Aside0 (k ≤ x.length) ∧ Aside0 (k + kq = x.length + 1) ∧ Aside0 (∀ j, j < k → leB m (mpA (mps x) j) (mpA (mps y) j) = true) ∧ Aside0 (Below w0.heap.size w0 w'))
  case atStart => exact ⟨0, rfl, ⟨Nat.zero_le _⟩, ⟨by omega⟩, ⟨fun j hj => by omega⟩, ⟨Below.refl _ _⟩⟩
  case round =>
    obtain ⟨k, rfl, HK, HKQ, HP, HL⟩ := hrel
    have hbw : Below w.heap.size w wr := below_mid hb0_.out HL.out
    have HXW := Aside0.mk (blk_below HX0.out HL.out)
    cases gk with
    | zero => exact absurd HK.out (by have := HKQ.out; omega)
    | succ k1 =>
      by_cases hk : k < x.length
      · obtain ⟨adx, Ax, cx, hA, q0, hcx, hCx⟩ := at_L11 (Kd.C_below HA.out hbw) (k : Int) (by omega) (by omega)
        subst hA
        obtain ⟨ady, Ay, cy, hB, r0, hcy, hCy⟩ := at_L11 (Kd.C_below HB.out hbw) (k : Int) (by omega) (by omega)
        subst hB
        simp only [Int.toNat_natCast] at q0 r0
        obtain ⟨u, hu⟩ : ∃ u, rd_L11 x (k : Int) = u := ⟨_, rfl⟩
        obtain ⟨v, hv⟩ : ∃ v, rd_L11 y (k : Int) = v := ⟨_, rfl⟩
        rw [hu] at q0 hcx hCx
        rw [hv] at r0 hcy hCy
        have HUU := Aside0.mk hu
        have HVV := Aside0.mk hv
        have HCX := Aside0.mk hCx
        have HCY := Aside0.mk hCy
        have hmu := Kd.C_max hCx
        clear hu hv hCx hCy
        have e1 : (k : Int) < (x.length : Int) := by omega
        have e2 : (k : Int) < (y.length : Int) := by omega
        go_wp2_with fail
        refine see (F := fun w0_ => Below wr.heap.size wr w0_ ∧ w0_.cell? (adx.add k) = some (.slice Ax u.length cx) ∧ w0_.cell? (ady.add k) = some (.slice Ay v.length cy)) _ ⟨bel, q0, r0⟩ ?_
        rintro w1 ⟨hb1_, hq1_, hq2_⟩
        replace hb1_ := Aside0.mk hb1_
        replace hq1_ := Aside0.mk hq1_
        replace hq2_ := Aside0.mk hq2_
        by_cases hlu : u.length = v.length
        case neg =>
          have du : ((u.length : Int) != (v.length : Int)) = true := bne_iff_ne.2 (by omega)
          have hpf : p = false := by rw [← HPP.out]; exact overB_false (by rw [mps_len]; exact hk) (by rw [mpA_mps, mpA_mps, HUU.out, HVV.out]; exact leB_len (by rw [List.length_map, List.length_map]; exact hlu))
          clear hlu
          have KP := Aside0.mk (show ∀ w', Below w1.heap.size w1 w' → (w'.cell? (adx.add k) = some (.slice Ax u.length cx) ∧ w'.cell? (ady.add k) = some (.slice Ay v.length cy)) from fun w' h => ⟨keepc h hq1_.out, keepc h hq2_.out⟩)
          go_region_held3 (fun w' => w'.cell? (adx.add k) = some (.slice Ax u.length cx) ∧ w'.cell? (ady.add k) = some (.slice Ay v.length cy)) (((try dsimp only); first | exact KP.out _ bel)) (first | fail)
          go_wp2_with fail
          go_ret
          exact ⟨by rw [hpf]; rfl, below_step (below_mid hbw hb1_.out) bel⟩
        have du : ((u.length : Int) != (v.length : Int)) = false := by rw [hlu]; exact bne_self_eq_false _
        have hule : u.length ≤ v.length := by omega
        have huge : v.length ≤ u.length := by omega
        have HLU := Aside0.mk hlu
        clear hlu
        have KP := Aside0.mk (show ∀ w', Below w1.heap.size w1 w' → (w'.cell? (adx.add k) = some (.slice Ax u.length cx) ∧ w'.cell? (ady.add k) = some (.slice Ay v.length cy)) from fun w' h => ⟨keepc h hq1_.out, keepc h hq2_.out⟩)
        go_region_held3 (fun w' => w'.cell? (adx.add k) = some (.slice Ax u.length cx) ∧ w'.cell? (ady.add k) = some (.slice Ay v.length cy)) (((try dsimp only); first | exact KP.out _ bel)) (first | fail)
        have q0_1 := hq1_.out
        go_wp2_with fail
        refine see (F := fun w0_ => Below w1.heap.size w1 w0_ ∧ Below w.heap.size w w0_ ∧ Below w0.heap.size w0 w0_ ∧ w0_.heap[w.heap.size]? = some (.cells #[.slice A0 m.c.length c0, .slice A1 m.s.length c1, .slice A2 m.n.length c2, .slice A3 m.m.length c3, .slice A4 m.e.length c4, .int .i64 m.sk, .int .i64 m.hp] 28 (0, 0)) ∧ w0_.cell? (ady.add k) = some (.slice Ay v.length cy) ∧ Kd.C k44 w0_ Ax u.length u ∧ Kd.C k44 w0_ Ay v.length v) _ ⟨bel, below_step (below_mid hbw hb1_.out) bel, below_step (below_step HL.out hb1_.out) bel, blk_below (blk_below HXW.out hb1_.out) bel, keepc (below_step hb1_.out bel) r0, Kd.C_below HCX.out (below_step hb1_.out bel), Kd.C_below HCY.out (below_step hb1_.out bel)⟩ ?_
        rintro w2 ⟨hb2_, HB2, HB02, HX2, HR2, HCX2, HCY2⟩
        replace hb2_ := Aside0.mk hb2_
        replace HB2 := Aside0.mk HB2
        replace HB02 := Aside0.mk HB02
        replace HX2 := Aside0.mk HX2
        replace HR2 := Aside0.mk HR2
        replace HCX2 := Aside0.mk HCX2
        replace HCY2 := Aside0.mk HCY2
        clear du q0_1
        go_loopg [36] (u.length + 1) (fun kq v36 w' => ∃ i : Nat, v36 = .int .i64 (i : Int) ∧ Aside0 (i ≤ u.length) ∧ Aside0 (i + kq = u.length + 1) ∧ Aside0 (∀ j, j < i → itemB m (u.map shp) (v.map shp) j = true) ∧ Aside0 (Below w2.heap.size w2 w'))
        case atStart => exact ⟨0, rfl, ⟨Nat.zero_le _⟩, ⟨by omega⟩, ⟨fun j hj => by omega⟩, ⟨Below.refl _ _⟩⟩
        case round =>
          obtain ⟨i, rfl, HK2, HKQ2, HP2, HL2⟩ := hrel
          have hbw2 : Below w.heap.size w wr := below_mid HB2.out HL2.out
          have HXW2 := Aside0.mk (blk_below HX2.out HL2.out)
          have r0_2 := keepc HL2.out HR2.out
          cases gk with
          | zero => exact absurd HK2.out (by have := HKQ2.out; omega)
          | succ k2 =>
            by_cases hi : i < u.length
            · obtain ⟨adu, Au, cu, hA, f0, f1, hcu, hCu⟩ := at_T44 (Kd.C_below HCX2.out HL2.out) (i : Int) (by omega) (by omega)
              subst hA
              obtain ⟨adv, Av, cv, hB, g0, g1, hcv, hCv⟩ := at_T44 (Kd.C_below HCY2.out HL2.out) (i : Int) (by omega) (by omega)
              subst hB
              simp only [Int.toNat_natCast] at f0 f1 g0 g1
              obtain ⟨⟨s0, s1⟩, hs⟩ : ∃ s, rd_T44 u (i : Int) = s := ⟨_, rfl⟩
              obtain ⟨⟨t0, t1⟩, ht⟩ : ∃ t, rd_T44 v (i : Int) = t := ⟨_, rfl⟩
              rw [hs] at f0 f1 hcu hCu
              rw [ht] at g0 g1 hcv hCv
              dsimp only at f0 f1 g0 g1 hcu hCu hcv hCv
              have HCu := Aside0.mk hCu
              have HCv := Aside0.mk hCv
              have HIT := Aside0.mk (show itemB m (u.map shp) (v.map shp) i = (!s0 || (t0 && underV m.c s1 t1)) from by unfold itemB; rw [shA_map, shA_map, hs, ht]; rfl)
              clear hs ht hCu hCv
              have HS0 := Aside0.mk (rfl : (0 : Nat) = 0)
              have e3 : (i : Int) < (u.length : Int) := by omega
              have e4 : (i : Int) < (v.length : Int) := by omega
              obtain ⟨pu, hpu⟩ : ∃ pu, underV m.c s1 t1 = pu := ⟨_, rfl⟩
              have HPU := Aside0.mk hpu
              rw [hpu] at HIT
              clear hpu
              go_wp2_with fail
              refine see (F := fun w0_ => Below wr.heap.size wr w0_ ∧ w0_.cell? ⟨wr.heap.size, 0, none⟩ = some (.bool s0) ∧ w0_.cell? ⟨wr.heap.size, 1, none⟩ = some (.slice Au s1.length cu) ∧ w0_.cell? ⟨w.heap.size, 0, none⟩ = some (.slice A0 m.c.length c0) ∧ w0_.cell? ⟨w.heap.size, 1, none⟩ = some (.slice A1 m.s.length c1) ∧ w0_.cell? ⟨w.heap.size, 2, none⟩ = some (.slice A2 m.n.length c2) ∧ w0_.cell? ⟨w.heap.size, 3, none⟩ = some (.slice A3 m.m.length c3) ∧ w0_.cell? ⟨w.heap.size, 4, none⟩ = some (.slice A4 m.e.length c4) ∧ w0_.cell? ⟨w.heap.size, 5, none⟩ = some (.int .i64 m.sk) ∧ w0_.cell? ⟨w.heap.size, 6, none⟩ = some (.int .i64 m.hp) ∧ w0_.cell? (ady.add k) = some (.slice (some adv) v.length cy) ∧ w0_.cell? (adv.add (i * 2)) = some (.bool t0) ∧ w0_.cell? ⟨(adv.add (i * 2)).block, (adv.add (i * 2)).off + 1, none⟩ = some (.slice Av t1.length cv)) _ ⟨bel, (blk_cell (heap_alloc_new wr _) 0).trans rfl, (blk_cell (heap_alloc_new wr _) 1).trans rfl, (blk_cell (blk_alloc HXW2.out _) 0).trans rfl, (blk_cell (blk_alloc HXW2.out _) 1).trans rfl, (blk_cell (blk_alloc HXW2.out _) 2).trans rfl, (blk_cell (blk_alloc HXW2.out _) 3).trans rfl, (blk_cell (blk_alloc HXW2.out _) 4).trans rfl, (blk_cell (blk_alloc HXW2.out _) 5).trans rfl, (blk_cell (blk_alloc HXW2.out _) 6).trans rfl, keepc (below_alloc (Below.refl _ _) _) r0_2, keepc (below_alloc (Below.refl _ _) _) g0, keepc (below_alloc (Below.refl _ _) _) g1⟩ ?_
              rintro w3 ⟨hb3_, hq1_, hq2_, hq3_, hq4_, hq5_, hq6_, hq7_, hq8_, hq9_, hq10_, hq11_, hq12_⟩
              replace hb3_ := Aside0.mk hb3_
              replace hq1_ := Aside0.mk hq1_
              replace hq2_ := Aside0.mk hq2_
              replace hq3_ := Aside0.mk hq3_
              replace hq4_ := Aside0.mk hq4_
              replace hq5_ := Aside0.mk hq5_
              replace hq6_ := Aside0.mk hq6_
              replace hq7_ := Aside0.mk hq7_
              replace hq8_ := Aside0.mk hq8_
              replace hq9_ := Aside0.mk hq9_
              replace hq10_ := Aside0.mk hq10_
              replace hq11_ := Aside0.mk hq11_
              replace hq12_ := Aside0.mk hq12_
              cases s0 with
              | false =>
                have KP := Aside0.mk (show ∀ w', Below w3.heap.size w3 w' → (w'.cell? ⟨wr.heap.size, 0, none⟩ = some (.bool false) ∧ w'.cell? ⟨wr.heap.size, 1, none⟩ = some (.slice Au s1.length cu) ∧ w'.cell? ⟨w.heap.size, 0, none⟩ = some (.slice A0 m.c.length c0) ∧ w'.cell? ⟨w.heap.size, 1, none⟩ = some (.slice A1 m.s.length c1) ∧ w'.cell? ⟨w.heap.size, 2, none⟩ = some (.slice A2 m.n.length c2) ∧ w'.cell? ⟨w.heap.size, 3, none⟩ = some (.slice A3 m.m.length c3) ∧ w'.cell? ⟨w.heap.size, 4, none⟩ = some (.slice A4 m.e.length c4) ∧ w'.cell? ⟨w.heap.size, 5, none⟩ = some (.int .i64 m.sk) ∧ w'.cell? ⟨w.heap.size, 6, none⟩ = some (.int .i64 m.hp) ∧ w'.cell? (ady.add k) = some (.slice (some adv) v.length cy) ∧ w'.cell? (adv.add (i * 2)) = some (.bool t0) ∧ w'.cell? ⟨(adv.add (i * 2)).block, (adv.add (i * 2)).off + 1, none⟩ = some (.slice Av t1.length cv)) from fun w' h => ⟨keepc h hq1_.out, keepc h hq2_.out, keepc h hq3_.out, keepc h hq4_.out, keepc h hq5_.out, keepc h hq6_.out, keepc h hq7_.out, keepc h hq8_.out, keepc h hq9_.out, keepc h hq10_.out, keepc h hq11_.out, keepc h hq12_.out⟩)
                refine wp_region_noPanic ?_
                refine wp_region_held_drew (S := fun w' => w'.cell? ⟨wr.heap.size, 0, none⟩ = some (.bool false) ∧ w'.cell? ⟨wr.heap.size, 1, none⟩ = some (.slice Au s1.length cu) ∧ w'.cell? ⟨w.heap.size, 0, none⟩ = some (.slice A0 m.c.length c0) ∧ w'.cell? ⟨w.heap.size, 1, none⟩ = some (.slice A1 m.s.length c1) ∧ w'.cell? ⟨w.heap.size, 2, none⟩ = some (.slice A2 m.n.length c2) ∧ w'.cell? ⟨w.heap.size, 3, none⟩ = some (.slice A3 m.m.length c3) ∧ w'.cell? ⟨w.heap.size, 4, none⟩ = some (.slice A4 m.e.length c4) ∧ w'.cell? ⟨w.heap.size, 5, none⟩ = some (.int .i64 m.sk) ∧ w'.cell? ⟨w.heap.size, 6, none⟩ = some (.int .i64 m.hp) ∧ w'.cell? (ady.add k) = some (.slice (some adv) v.length cy) ∧ w'.cell? (adv.add (i * 2)) = some (.bool t0) ∧ w'.cell? ⟨(adv.add (i * 2)).block, (adv.add (i * 2)).off + 1, none⟩ = some (.slice Av t1.length cv)) (by kernel_rfl) (by ((try dsimp only); first | exact KP.out _ bel)) (fun hHeld => ?_)
                refine tk 0 ?_
                refine tk 1 ?_
                refine tk 2 ?_
                refine tk 3 ?_
                refine tk 4 ?_
                refine tk 5 ?_
                refine tk 6 ?_
                refine tk 7 ?_
                refine tk 8 ?_
                refine tk 9 ?_
                refine tk 10 ?_
                refine tk 11 ?_
                refine tk 12 ?_
                refine tk 13 ?_
                refine tk 14 ?_
                refine tk 15 ?_
                refine tk 16 ?_
                refine tk 17 ?_
                refine tk 18 ?_
                refine tk 19 ?_
                refine tk 20 ?_
                refine tk 21 ?_
                refine tk 22 ?_
                refine tk 23 ?_
                refine tk 24 ?_
                refine tk 25 ?_
                refine tk 26 ?_
                refine tk 27 ?_
                refine wpAnyH_done (by kernel_rfl) ?_ _
                refine NoPanic.normal ?_
                go_wp2_with fail
                go_roundg k2
                case measure => have := HKQ2.out; omega
                case rel =>
                  refine ⟨i + 1, by go_num, ⟨by omega⟩, ⟨by have := HKQ2.out; omega⟩, ⟨fun j hj => ?_⟩, ⟨below_step (below_step HL2.out hb3_.out) bel⟩⟩
                  rcases Nat.lt_or_ge j i with h9 | h9
                  · exact HP2.out j h9
                  · obtain rfl : j = i := by omega
                    rw [HIT.out]; first | rfl | (simp; done) | (rw [HS0.out]; rfl)
              | true =>
                cases t0 with
                | false =>
                  have KP := Aside0.mk (show ∀ w', Below w3.heap.size w3 w' → (w'.cell? ⟨wr.heap.size, 0, none⟩ = some (.bool true) ∧ w'.cell? ⟨wr.heap.size, 1, none⟩ = some (.slice Au s1.length cu) ∧ w'.cell? ⟨w.heap.size, 0, none⟩ = some (.slice A0 m.c.length c0) ∧ w'.cell? ⟨w.heap.size, 1, none⟩ = some (.slice A1 m.s.length c1) ∧ w'.cell? ⟨w.heap.size, 2, none⟩ = some (.slice A2 m.n.length c2) ∧ w'.cell? ⟨w.heap.size, 3, none⟩ = some (.slice A3 m.m.length c3) ∧ w'.cell? ⟨w.heap.size, 4, none⟩ = some (.slice A4 m.e.length c4) ∧ w'.cell? ⟨w.heap.size, 5, none⟩ = some (.int .i64 m.sk) ∧ w'.cell? ⟨w.heap.size, 6, none⟩ = some (.int .i64 m.hp) ∧ w'.cell? (ady.add k) = some (.slice (some adv) v.length cy) ∧ w'.cell? (adv.add (i * 2)) = some (.bool false) ∧ w'.cell? ⟨(adv.add (i * 2)).block, (adv.add (i * 2)).off + 1, none⟩ = some (.slice Av t1.length cv)) from fun w' h => ⟨keepc h hq1_.out, keepc h hq2_.out, keepc h hq3_.out, keepc h hq4_.out, keepc h hq5_.out, keepc h hq6_.out, keepc h hq7_.out, keepc h hq8_.out, keepc h hq9_.out, keepc h hq10_.out, keepc h hq11_.out, keepc h hq12_.out⟩)
                  refine wp_region_noPanic ?_
                  refine wp_region_held_drew (S := fun w' => w'.cell? ⟨wr.heap.size, 0, none⟩ = some (.bool true) ∧ w'.cell? ⟨wr.heap.size, 1, none⟩ = some (.slice Au s1.length cu) ∧ w'.cell? ⟨w.heap.size, 0, none⟩ = some (.slice A0 m.c.length c0) ∧ w'.cell? ⟨w.heap.size, 1, none⟩ = some (.slice A1 m.s.length c1) ∧ w'.cell? ⟨w.heap.size, 2, none⟩ = some (.slice A2 m.n.length c2) ∧ w'.cell? ⟨w.heap.size, 3, none⟩ = some (.slice A3 m.m.length c3) ∧ w'.cell? ⟨w.heap.size, 4, none⟩ = some (.slice A4 m.e.length c4) ∧ w'.cell? ⟨w.heap.size, 5, none⟩ = some (.int .i64 m.sk) ∧ w'.cell? ⟨w.heap.size, 6, none⟩ = some (.int .i64 m.hp) ∧ w'.cell? (ady.add k) = some (.slice (some adv) v.length cy) ∧ w'.cell? (adv.add (i * 2)) = some (.bool false) ∧ w'.cell? ⟨(adv.add (i * 2)).block, (adv.add (i * 2)).off + 1, none⟩ = some (.slice Av t1.length cv)) (by kernel_rfl) (by ((try dsimp only); first | exact KP.out _ bel)) (fun hHeld => ?_)
                  refine tk 0 ?_
                  refine tk 1 ?_
                  refine tk 2 ?_
                  refine tk 3 ?_
                  refine tk 4 ?_
                  refine tk 5 ?_
                  refine tk 6 ?_
                  refine tk 7 ?_
                  refine tk 8 ?_
                  refine tk 9 ?_
                  refine tk 10 ?_
                  refine tk 11 ?_
                  refine tk 12 ?_
                  refine tk 13 ?_
                  refine tk 14 ?_
                  refine tk 15 ?_
                  refine tk 16 ?_
                  refine tk 17 ?_
                  refine tk 18 ?_
                  refine tk 19 ?_
                  refine tk 20 ?_
                  refine tk 21 ?_
                  refine tk 22 ?_
                  refine tk 23 ?_
                  refine tk 24 ?_
                  refine tk 25 ?_
                  refine tk 26 ?_
                  refine tk 27 ?_
                  refine wpAnyH_done (by kernel_rfl) ?_ _
                  refine NoPanic.normal ?_
                  have hpf : p = false := by rw [← HPP.out]; exact overB_false (by rw [mps_len]; exact hk) (by rw [mpA_mps, mpA_mps, HUU.out, HVV.out]; exact leB_false (j := i) (by rw [List.length_map]; exact hi) (by rw [HIT.out]; first | rfl | (rw [HS0.out]; rfl)))
                  go_wp2_with fail
                  go_ret
                  exact ⟨by rw [hpf]; rfl, below_step (below_mid hbw2 hb3_.out) bel⟩
                | true =>
                  cases pu with
                  | true =>
                    have KP := Aside0.mk (show ∀ w', Below w3.heap.size w3 w' → (w'.cell? ⟨wr.heap.size, 0, none⟩ = some (.bool true) ∧ w'.cell? ⟨wr.heap.size, 1, none⟩ = some (.slice Au s1.length cu) ∧ w'.cell? ⟨w.heap.size, 0, none⟩ = some (.slice A0 m.c.length c0) ∧ w'.cell? ⟨w.heap.size, 1, none⟩ = some (.slice A1 m.s.length c1) ∧ w'.cell? ⟨w.heap.size, 2, none⟩ = some (.slice A2 m.n.length c2) ∧ w'.cell? ⟨w.heap.size, 3, none⟩ = some (.slice A3 m.m.length c3) ∧ w'.cell? ⟨w.heap.size, 4, none⟩ = some (.slice A4 m.e.length c4) ∧ w'.cell? ⟨w.heap.size, 5, none⟩ = some (.int .i64 m.sk) ∧ w'.cell? ⟨w.heap.size, 6, none⟩ = some (.int .i64 m.hp) ∧ w'.cell? (ady.add k) = some (.slice (some adv) v.length cy) ∧ w'.cell? (adv.add (i * 2)) = some (.bool true) ∧ w'.cell? ⟨(adv.add (i * 2)).block, (adv.add (i * 2)).off + 1, none⟩ = some (.slice Av t1.length cv)) from fun w' h => ⟨keepc h hq1_.out, keepc h hq2_.out, keepc h hq3_.out, keepc h hq4_.out, keepc h hq5_.out, keepc h hq6_.out, keepc h hq7_.out, keepc h hq8_.out, keepc h hq9_.out, keepc h hq10_.out, keepc h hq11_.out, keepc h hq12_.out⟩)
                    refine wp_region_noPanic ?_
                    refine wp_region_held_drew (S := fun w' => w'.cell? ⟨wr.heap.size, 0, none⟩ = some (.bool true) ∧ w'.cell? ⟨wr.heap.size, 1, none⟩ = some (.slice Au s1.length cu) ∧ w'.cell? ⟨w.heap.size, 0, none⟩ = some (.slice A0 m.c.length c0) ∧ w'.cell? ⟨w.heap.size, 1, none⟩ = some (.slice A1 m.s.length c1) ∧ w'.cell? ⟨w.heap.size, 2, none⟩ = some (.slice A2 m.n.length c2) ∧ w'.cell? ⟨w.heap.size, 3, none⟩ = some (.slice A3 m.m.length c3) ∧ w'.cell? ⟨w.heap.size, 4, none⟩ = some (.slice A4 m.e.length c4) ∧ w'.cell? ⟨w.heap.size, 5, none⟩ = some (.int .i64 m.sk) ∧ w'.cell? ⟨w.heap.size, 6, none⟩ = some (.int .i64 m.hp) ∧ w'.cell? (ady.add k) = some (.slice (some adv) v.length cy) ∧ w'.cell? (adv.add (i * 2)) = some (.bool true) ∧ w'.cell? ⟨(adv.add (i * 2)).block, (adv.add (i * 2)).off + 1, none⟩ = some (.slice Av t1.length cv)) (by kernel_rfl) (by ((try dsimp only); first | exact KP.out _ bel)) (fun hHeld => ?_)
                    refine tk 0 ?_
                    refine tk 1 ?_
                    refine tk 2 ?_
                    refine tk 3 ?_
                    refine tk 4 ?_
                    refine tk 5 ?_
                    refine tk 6 ?_
                    refine tk 7 ?_
                    refine tk 8 ?_
                    refine tk 9 ?_
                    refine tk 10 ?_
                    refine tk 11 ?_
                    refine tk 12 ?_
                    refine tk 13 ?_
                    refine tk 14 ?_
                    refine tk 15 ?_
                    refine tk 16 ?_
                    refine tk 17 ?_
                    refine tk 18 ?_
                    refine tk 19 ?_
                    refine tk 20 ?_
                    refine tk 21 ?_
                    refine tk 22 ?_
                    refine tk 23 ?_
                    refine tr 24 (fun K hK => ?_)
                    first | ((try go_simp); go_at_call 19; (refine (under_c (a := ⟨A0, A1, A2, A3, A4, c0, c1, c2, c3, c4⟩) (HM.out.below (below_mid (below_mid hbw2 hb3_.out) (by first | exact Below.refl _ _ | exact Below.drew (Below.refl _ _) | assumption))) (Kd.C_below HCu.out (below_step hb3_.out (by first | exact Below.refl _ _ | exact Below.drew (Below.refl _ _) | assumption))) hcu (Kd.C_below HCv.out (below_step hb3_.out (by first | exact Below.refl _ _ | exact Below.drew (Below.refl _ _) | assumption))) hcv HPU.out).mono ?_); rintro e w5 ⟨rfl, hb5⟩; have HB5 : Below w3.heap.size w3 w5 := below_step (by first | exact Below.refl _ _ | exact Below.drew (Below.refl _ _) | assumption) hb5; clear hb5) | go_simp
                    refine hK.out _ _ (by ((try dsimp only); first | exact KP.out _ bel)) (fun hHeld => ?_)
                    clear hK K
                    (try simp only [Act.put, putx])
                    refine tr 25 (fun K hK => ?_)
                    go_simp
                    refine hK.out _ _ (by ((try dsimp only); first | exact KP.out _ bel)) (fun hHeld => ?_)
                    clear hK K
                    (try simp only [Act.put, putx])
                    refine tr 26 (fun K hK => ?_)
                    go_simp
                    refine hK.out _ _ (by ((try dsimp only); first | exact KP.out _ bel)) (fun hHeld => ?_)
                    clear hK K
                    (try simp only [Act.put, putx])
                    refine tr 27 (fun K hK => ?_)
                    go_simp
                    refine hK.out _ _ (by ((try dsimp only); first | exact KP.out _ bel)) (fun hHeld => ?_)
                    clear hK K
                    (try simp only [Act.put, putx])
                    refine wpAnyH_done (by kernel_rfl) ?_ _
                    refine NoPanic.normal ?_
                    go_wp2_with fail
                    go_roundg k2
                    case measure => have := HKQ2.out; omega
                    case rel =>
                      refine ⟨i + 1, by go_num, ⟨by omega⟩, ⟨by have := HKQ2.out; omega⟩, ⟨fun j hj => ?_⟩, ⟨below_step (below_step HL2.out hb3_.out) HB5⟩⟩
                      rcases Nat.lt_or_ge j i with h9 | h9
                      · exact HP2.out j h9
                      · obtain rfl : j = i := by omega
                        rw [HIT.out]; first | rfl | (simp; done) | (rw [HS0.out]; rfl)
                  | false =>
                    have KP := Aside0.mk (show ∀ w', Below w3.heap.size w3 w' → (w'.cell? ⟨wr.heap.size, 0, none⟩ = some (.bool true) ∧ w'.cell? ⟨wr.heap.size, 1, none⟩ = some (.slice Au s1.length cu) ∧ w'.cell? ⟨w.heap.size, 0, none⟩ = some (.slice A0 m.c.length c0) ∧ w'.cell? ⟨w.heap.size, 1, none⟩ = some (.slice A1 m.s.length c1) ∧ w'.cell? ⟨w.heap.size, 2, none⟩ = some (.slice A2 m.n.length c2) ∧ w'.cell? ⟨w.heap.size, 3, none⟩ = some (.slice A3 m.m.length c3) ∧ w'.cell? ⟨w.heap.size, 4, none⟩ = some (.slice A4 m.e.length c4) ∧ w'.cell? ⟨w.heap.size, 5, none⟩ = some (.int .i64 m.sk) ∧ w'.cell? ⟨w.heap.size, 6, none⟩ = some (.int .i64 m.hp) ∧ w'.cell? (ady.add k) = some (.slice (some adv) v.length cy) ∧ w'.cell? (adv.add (i * 2)) = some (.bool true) ∧ w'.cell? ⟨(adv.add (i * 2)).block, (adv.add (i * 2)).off + 1, none⟩ = some (.slice Av t1.length cv)) from fun w' h => ⟨keepc h hq1_.out, keepc h hq2_.out, keepc h hq3_.out, keepc h hq4_.out, keepc h hq5_.out, keepc h hq6_.out, keepc h hq7_.out, keepc h hq8_.out, keepc h hq9_.out, keepc h hq10_.out, keepc h hq11_.out, keepc h hq12_.out⟩)
                    refine wp_region_noPanic ?_
                    refine wp_region_held_drew (S := fun w' => w'.cell? ⟨wr.heap.size, 0, none⟩ = some (.bool true) ∧ w'.cell? ⟨wr.heap.size, 1, none⟩ = some (.slice Au s1.length cu) ∧ w'.cell? ⟨w.heap.size, 0, none⟩ = some (.slice A0 m.c.length c0) ∧ w'.cell? ⟨w.heap.size, 1, none⟩ = some (.slice A1 m.s.length c1) ∧ w'.cell? ⟨w.heap.size, 2, none⟩ = some (.slice A2 m.n.length c2) ∧ w'.cell? ⟨w.heap.size, 3, none⟩ = some (.slice A3 m.m.length c3) ∧ w'.cell? ⟨w.heap.size, 4, none⟩ = some (.slice A4 m.e.length c4) ∧ w'.cell? ⟨w.heap.size, 5, none⟩ = some (.int .i64 m.sk) ∧ w'.cell? ⟨w.heap.size, 6, none⟩ = some (.int .i64 m.hp) ∧ w'.cell? (ady.add k) = some (.slice (some adv) v.length cy) ∧ w'.cell? (adv.add (i * 2)) = some (.bool true) ∧ w'.cell? ⟨(adv.add (i * 2)).block, (adv.add (i * 2)).off + 1, none⟩ = some (.slice Av t1.length cv)) (by kernel_rfl) (by ((try dsimp only); first | exact KP.out _ bel)) (fun hHeld => ?_)
                    refine tk 0 ?_
                    refine tk 1 ?_
                    refine tk 2 ?_
                    refine tk 3 ?_
                    refine tk 4 ?_
                    refine tk 5 ?_
                    refine tk 6 ?_
                    refine tk 7 ?_
                    refine tk 8 ?_
                    refine tk 9 ?_
                    refine tk 10 ?_
                    refine tk 11 ?_
                    refine tk 12 ?_
                    refine tk 13 ?_
                    refine tk 14 ?_
                    refine tk 15 ?_
                    refine tk 16 ?_
                    refine tk 17 ?_
                    refine tk 18 ?_
                    refine tk 19 ?_
                    refine tk 20 ?_
                    refine tk 21 ?_
                    refine tk 22 ?_
                    refine tk 23 ?_
                    refine tr 24 (fun K hK => ?_)
                    first | ((try go_simp); go_at_call 19; (refine (under_c (a := ⟨A0, A1, A2, A3, A4, c0, c1, c2, c3, c4⟩) (HM.out.below (below_mid (below_mid hbw2 hb3_.out) (by first | exact Below.refl _ _ | exact Below.drew (Below.refl _ _) | assumption))) (Kd.C_below HCu.out (below_step hb3_.out (by first | exact Below.refl _ _ | exact Below.drew (Below.refl _ _) | assumption))) hcu (Kd.C_below HCv.out (below_step hb3_.out (by first | exact Below.refl _ _ | exact Below.drew (Below.refl _ _) | assumption))) hcv HPU.out).mono ?_); rintro e w5 ⟨rfl, hb5⟩; have HB5 : Below w3.heap.size w3 w5 := below_step (by first | exact Below.refl _ _ | exact Below.drew (Below.refl _ _) | assumption) hb5; clear hb5) | go_simp
                    refine hK.out _ _ (by ((try dsimp only); first | exact KP.out _ bel)) (fun hHeld => ?_)
                    clear hK K
                    (try simp only [Act.put, putx])
                    refine tr 25 (fun K hK => ?_)
                    go_simp
                    refine hK.out _ _ (by ((try dsimp only); first | exact KP.out _ bel)) (fun hHeld => ?_)
                    clear hK K
                    (try simp only [Act.put, putx])
                    refine tr 26 (fun K hK => ?_)
                    go_simp
                    refine hK.out _ _ (by ((try dsimp only); first | exact KP.out _ bel)) (fun hHeld => ?_)
                    clear hK K
                    (try simp only [Act.put, putx])
                    refine tr 27 (fun K hK => ?_)
                    go_simp
                    refine hK.out _ _ (by ((try dsimp only); first | exact KP.out _ bel)) (fun hHeld => ?_)
                    clear hK K
                    (try simp only [Act.put, putx])
                    refine wpAnyH_done (by kernel_rfl) ?_ _
                    refine NoPanic.normal ?_
                    have hpf : p = false := by rw [← HPP.out]; exact overB_false (by rw [mps_len]; exact hk) (by rw [mpA_mps, mpA_mps, HUU.out, HVV.out]; exact leB_false (j := i) (by rw [List.length_map]; exact hi) (by rw [HIT.out]; first | rfl | (rw [HS0.out]; rfl)))
                    go_wp2_with fail
                    go_ret
                    exact ⟨by rw [hpf]; rfl, below_step (below_mid hbw2 hb3_.out) HB5⟩
            · have hie : i = u.length := by have := HK2.out; omega
              have HLE := Aside0.mk (show leB m (mpA (mps x) k) (mpA (mps y) k) = true from by
                rw [mpA_mps, mpA_mps, HUU.out, HVV.out]
                exact leB_true (by rw [List.length_map, List.length_map]; exact HLU.out) (fun j hj => HP2.out j (by rw [List.length_map] at hj; omega)))
              subst hie
              clear HP2 hi
              go_wp2_with fail
              go_roundg k1
              case measure => have := HKQ.out; omega
              case rel =>
                refine ⟨k + 1, by go_num, ⟨by omega⟩, ⟨by have := HKQ.out; omega⟩, ⟨fun j hj => ?_⟩, ⟨below_step HB02.out HL2.out⟩⟩
                rcases Nat.lt_or_ge j k with h9 | h9
                · exact HP.out j h9
                · obtain rfl : j = k := by omega
                  exact HLE.out
      · have hke : k = x.length := by have := HK.out; omega
        have hpt : p = true := by rw [← HPP.out]; exact overB_true (by rw [mps_len, mps_len]; exact HLL.out) (fun j hj => HP.out j (by rw [mps_len] at hj; omega))
        subst hke
        clear HP hk
        go_wp2_with fail
        go_ret
        exact ⟨by rw [hpt]; rfl, hbw⟩
end Go.Proofs.Ytcfbhobpfnlkpaa.Flow
