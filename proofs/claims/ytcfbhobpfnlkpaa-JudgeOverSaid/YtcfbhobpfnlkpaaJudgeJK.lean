/- The walk of typer.merge. -/
import Derived.Test.YtcfbhobpfnlkpaaJudgeJJ
namespace Go.Proofs.Ytcfbhobpfnlkpaa.Flow
open Go.RowKit Go.Proofs.Ytcfbhobpfnlkpaa.QJudgeFound Go.Proofs.YtcfbhobpfnlkpaaW.PrintWords Go.Proofs.YtcfbhobpfnlkpaaW.PrintLast Go.Proofs.Ytcfbhobpfnlkpaa.Chain
set_option linter.unusedVariables false
set_option linter.unusedSimpArgs false
theorem infoSH : (Try.prog.info? 44).map (·.size) = some 2 := by kernel_rfl
def tZ : S39 := ⟨0, 0⟩
theorem run_makeT (w : World) (n : Nat) (hn : n ≤ 100000) : (Instr.makeSlice 23 (.int .i64 (n : Int)) (.int .i64 (n : Int))).run Try.prog w = .ok (.slice (some ⟨w.heap.size, 0, none⟩) n n) (w.alloc (.cells (cellsT (List.replicate n tZ)).toArray 39)) := by
  obtain ⟨i0, hi, hz0, hz1, hz2⟩ := info_parts info39
  have hr := run_make (P := Try.prog) w 23 39 i0 (.agg #[.int .i64 0, .int .i64 0]) Try.underlying23 hi hz0 .i64 .i64 (n : Int) (n : Int) (by omega) (by omega) (by rw [hz2]; omega) (by omega)
  rw [hz1] at hr
  simp only [Int.toNat_natCast] at hr
  rw [hr]
  have e : madeCells (Value.agg #[.int .i64 0, .int .i64 0]).cells (n * 2) = (cellsT (List.replicate n tZ)).toArray := by
    have hlen : ∀ n : Nat, (cellsT (List.replicate n tZ)).length = n * 2 := by
      intro n
      induction n with
      | zero => rfl
      | succ n ih =>
        rw [List.replicate_succ]
        show ([Value.int .i64 0, Value.int .i64 0] ++ cellsT (List.replicate n tZ)).length = _
        rw [List.length_append, ih]
        simp
        omega
    have hat : ∀ (n i : Nat) (h : i < (cellsT (List.replicate n tZ)).length), (cellsT (List.replicate n tZ))[i] = .int .i64 0 := by
      intro n
      induction n with
      | zero => intro i h; exact absurd h (Nat.not_lt_zero _)
      | succ n ih =>
        intro i h
        have h' : cellsT (List.replicate (n + 1) tZ) = .int .i64 0 :: .int .i64 0 :: cellsT (List.replicate n tZ) := by rw [List.replicate_succ]; rfl
        simp only [h'] at h ⊢
        match i, h with
        | 0, _ => rfl
        | 1, _ => rfl
        | i + 2, h => exact ih i (by simpa using h)
    apply Array.ext
    · simp [madeCells, hlen]
    · intro i h1 h2
      have h3 : i < (cellsT (List.replicate n tZ)).length := by simpa using h2
      have h4 : i % 2 = 0 ∨ i % 2 = 1 := by omega
      rcases h4 with h4 | h4 <;> simp [madeCells, Value.cells, h4, hat n i h3]
  rw [e]
theorem cellsT_len (l : List S39) : (cellsT l).length = l.length * 2 := by
  induction l with
  | nil => rfl
  | cons x l ih =>
    show ([Value.int .i64 x.f0, Value.int .i64 x.f1] ++ cellsT l).length = _
    rw [List.length_append, ih]
    simp
    omega
theorem cellsT_at : ∀ (l : List S39) (k : Nat) (h : k < l.length), (cellsT l).toArray[k * 2]? = some (.int .i64 l[k].f0) ∧ (cellsT l).toArray[k * 2 + 1]? = some (.int .i64 l[k].f1)
  | x :: l, 0, _ => ⟨rfl, rfl⟩
  | x :: l, k + 1, h => by
    have h1 := cellsT_at l k (by simpa using h)
    have e : cellsT (x :: l) = .int .i64 x.f0 :: .int .i64 x.f1 :: cellsT l := rfl
    rw [e]
    have e1 : (k + 1) * 2 = k * 2 + 1 + 1 := by omega
    have e2 : (k + 1) * 2 + 1 = (k * 2 + 1) + 1 + 1 := by omega
    rw [e1]
    simpa using h1
theorem cellsT_set : ∀ (l : List S39) (k : Nat) (x : S39), k < l.length → ((cellsT l).toArray.setIfInBounds (k * 2) (.int .i64 x.f0)).setIfInBounds (k * 2 + 1) (.int .i64 x.f1) = (cellsT (l.set k x)).toArray
  | y :: l, 0, x, _ => rfl
  | y :: l, k + 1, x, h => by
    have h1 := cellsT_set l k x (by simpa using h)
    have e : cellsT (y :: l) = .int .i64 y.f0 :: .int .i64 y.f1 :: cellsT l := rfl
    have e' : cellsT ((y :: l).set (k + 1) x) = .int .i64 y.f0 :: .int .i64 y.f1 :: cellsT (l.set k x) := rfl
    rw [e, e']
    have e1 : (k + 1) * 2 = k * 2 + 1 + 1 := by omega
    rw [e1]
    simp only [List.setIfInBounds_toArray, List.set_cons_succ] at h1 ⊢
    injection h1 with h1
    rw [h1]
theorem set_fill (o : List S39) (n : Nat) (x : S39) (h : o.length < n) : (o ++ List.replicate (n - o.length) tZ).set o.length x = (o ++ [x]) ++ List.replicate (n - (o ++ [x]).length) tZ := by
  rw [List.set_append_right _ _ (Nat.le_refl _), Nat.sub_self, List.length_append, List.length_singleton, List.append_assoc]
  obtain ⟨d, hd⟩ : ∃ d, n - o.length = d + 1 := ⟨n - o.length - 1, by omega⟩
  have hd2 : n - (o.length + 1) = d := by omega
  rw [hd, hd2, List.replicate_succ]
  rfl
theorem joinAll_ne {cs : List S80} : ∀ {a b : List S39}, a.length ≠ b.length → joinAll cs a b = none
  | [], [], h => absurd rfl h
  | [], _ :: _, _ => rfl
  | _ :: _, [], _ => rfl
  | x :: a, y :: b, h => by
    unfold joinAll
    split
    · rfl
    · rw [joinAll_ne (fun e => h (by rw [List.length_cons, List.length_cons, e]))]; rfl
theorem joinAll_cons {cs : List S80} {x y : S39} {a b : List S39} : joinAll cs (x :: a) (y :: b) = if (joinT cs x y).f0 = 0 then none else (joinAll cs a b).map (joinT cs x y :: ·) := by rw [joinAll]
theorem joinAll_step {cs : List S80} {a b o : List S39} {k : Nat} (ha : k < a.length) (hb : k < b.length) (h : joinAll cs a b = (joinAll cs (a.drop k) (b.drop k)).map (o ++ ·)) :
    ((joinT cs a[k] b[k]).f0 = 0 → joinAll cs a b = none) ∧ ((joinT cs a[k] b[k]).f0 ≠ 0 → joinAll cs a b = (joinAll cs (a.drop (k + 1)) (b.drop (k + 1))).map ((o ++ [joinT cs a[k] b[k]]) ++ ·)) := by
  rw [List.drop_eq_getElem_cons ha, List.drop_eq_getElem_cons hb, joinAll_cons] at h
  constructor
  · intro h0
    rw [if_pos h0] at h
    exact h
  · intro h0
    rw [if_neg h0, Option.map_map] at h
    rw [h]
    congr 1
    funext l
    simp
theorem cfar {w : World} {a p : Addr} {v u : Value} (h : w.cell? a = some v) (hne : a.block ≠ p.block) : (w.setCell p u).cell? a = some v := by
  rw [← h]
  unfold World.cell?
  rw [Below.heap_setCell w p u a.block hne]
theorem blk_far {w : World} {g : Nat} {o : Obj} (h : w.heap[g]? = some o) {p : Addr} (hne : g ≠ p.block) (u : Value) : (w.setCell p u).heap[g]? = some o := (Below.heap_setCell w p u g hne).trans h
theorem eq_n {w : World} {A B : Option Addr} {n c c' : Nat} {x y : List S39} (hn : n = x.length) (hx : Kd.C k39 w A x.length x) (hxc : x.length ≤ c) (hy : Kd.C k39 w B y.length y) (hyc : y.length ≤ c') {p : Bool} (hp : decide (x = y) = p) :
    Calls Try.prog 63 #[.slice A n c, .slice B y.length c'] w fun e w' => e = .returned (.bool p) ∧ Below w.heap.size w w' := by
  subst hn
  exact eq_c hx hxc hy hyc hp
theorem blk4o (w : World) (o1 o2 o3 o4 : Obj) : ((((w.alloc o1).alloc o2).alloc o3).alloc o4).heap[w.heap.size + 1 + 1 + 1]? = some o4 := by
  have e := heap_alloc_new (((w.alloc o1).alloc o2).alloc o3) o4
  have z : (((w.alloc o1).alloc o2).alloc o3).heap.size = w.heap.size + 1 + 1 + 1 := by simp
  rw [z] at e
  exact e
set_option maxHeartbeats 16000000 in
set_option maxRecDepth 100000 in
theorem merge_c (a : IA) (m : Im) (s0 : Bool) (B1 : Option Addr) (b1 : Nat) (old : List S39) (B2 : Option Addr) (b2 : Nat) (st : List S39) (w : World) (hm : IC w a m) (ho : Kd.C k39 w B1 old.length old) (hoc : old.length ≤ b1) (hst : Kd.C k39 w B2 st.length st) (hsc : st.length ≤ b2) (h8 : st.length ≤ 1000) {r : Option (Shp × Bool)} (hr : mergeV m.c (s0, old) st = r) :
    Calls Try.prog 46 #[.agg #[.slice a.A0 m.c.length a.c0, .slice a.A1 m.s.length a.c1, .slice a.A2 m.n.length a.c2, .slice a.A3 m.m.length a.c3, .slice a.A4 m.e.length a.c4, .int .i64 m.sk, .int .i64 m.hp], .agg #[.bool s0, .slice B1 old.length b1], .slice B2 st.length b2] w fun e w' => Below w.heap.size w w' ∧ (r = none → ∃ A n c, e = .returned (.tuple #[.agg #[.bool true, .slice A n c], .bool false, .bool false])) ∧ ∀ s tu, r = some (s, tu) → s.1 = true ∧ ∃ v, e = .returned (.tuple #[.agg #[.bool true, v], .bool tu, .bool true]) ∧ RowT w' w.heap.size v s.2 := by
  obtain ⟨A0, A1, A2, A3, A4, c0, c1, c2, c3, c4⟩ := a
  have HM := Aside0.mk hm
  have HOL := Aside0.mk ho
  have HS := Aside0.mk hst
  have HRR := Aside0.mk hr
  clear hm ho hst hr
  cases s0 with
  | false =>
    have hre : r = some ((true, st), true) := by rw [← HRR.out]; rfl
    have HRE := Aside0.mk hre
    clear hre
    go_enter Try.func46, Try.ntmps46
    go_wp2_with (first | (go_at_call 61; (refine (clone_c (Kd.C_below HS.out bel) hsc (by omega)).mono ?_); rintro e w3 ⟨v3, rfl, hr3, hb3⟩; obtain ⟨E3, e3_, hv3, hl3, hF3⟩ := hr3; subst hv3; have HR3 := Aside0.mk (show RowT w3 _ _ st from ⟨E3, e3_, rfl, hl3, hF3⟩); clear hF3 hl3; obtain ⟨hc3, hf3⟩ := bcell hb3; have hz3 : w.heap.size + 1 + 1 < w3.heap.size := lts hb3.size; have HB3 : Below w.heap.size w w3 := below_mid bel hb3; have HD3 := Aside0.mk hb3; clear hb3) | (go_at_call 60; (refine (clip_c HR3.out).mono ?_); rintro e w4 ⟨v4, rfl, hr4, hb4⟩; obtain ⟨A4_, c4_, hv4, hl4, hF4⟩ := hr4; subst hv4; have HR4 := Aside0.mk (show RowT w4 _ _ st from ⟨A4_, c4_, rfl, hl4, hF4⟩); clear hF4 hl4; obtain ⟨hc4, hf4⟩ := bcell hb4; have hz4 : w.heap.size + 1 + 1 < w4.heap.size := lts hb4.size; have HB4 : Below w.heap.size w w4 := below_mid HB3 hb4; have HD4 := Aside0.mk hb4; clear hb4))
    have HP2 := blk_below (blk_below (blk3 w (.cells #[.slice A0 m.c.length c0, .slice A1 m.s.length c1, .slice A2 m.n.length c2, .slice A3 m.m.length c3, .slice A4 m.e.length c4, .int .i64 m.sk, .int .i64 m.hp] 28) (.cells #[.bool false, .slice B1 old.length b1] 44) (.cells #[.bool false, .slice none 0 0] 44)).2.2 HD3.out) HD4.out
    have HP4 := blk_put (blk_put HP2 0 (.bool true) rfl) 1 (.slice A4_ st.length c4_) rfl
    refine bodyPost_ret (results_ctt (P := Try.prog) rfl _ _ _ _ _ _ _ rfl HP4 Try.underlying44 rfl infoSH) rfl ?_
    refine ⟨below_set (below_set HB4 (by omega)) (by omega), (fun h => by rw [HRE.out] at h; cases h), fun s tu h => ?_⟩
    rw [HRE.out] at h
    injection h with h; injection h with h1 h2
    subst h1 h2
    exact ⟨rfl, _, rfl, ((HR4.out.set (by simp) _).set (by simp) _).lower (by (try simp); omega)⟩
  | true =>
  have hrv : r = (joinAll m.c old st).map (fun o => ((true, o), decide (o ≠ old))) := by
    rw [← HRR.out]
    unfold mergeV
    rw [if_neg (show ¬ (true = false) from by decide)]
    cases joinAll m.c old st <;> rfl
  have HRV := Aside0.mk hrv
  clear hrv
  by_cases hl : old.length = st.length
  case neg =>
    have dl : ((old.length : Int) != (st.length : Int)) = true := bne_iff_ne.2 (by omega)
    have HRE := Aside0.mk (show r = none from by rw [HRV.out, joinAll_ne hl]; rfl)
    clear hl
    go_enter Try.func46, Try.ntmps46
    go_wp2_with fail
    refine bodyPost_ret (v := .tuple #[.agg #[.bool true, .slice B1 old.length b1], .bool false, .bool false]) (by simp [results, Try.results46, go_sem, *]) rfl ?_
    exact ⟨bel, fun _ => ⟨_, _, _, rfl⟩, fun s tu h => by rw [HRE.out] at h; cases h⟩
  have dl : ((old.length : Int) != (st.length : Int)) = false := by rw [hl]; exact bne_self_eq_false _
  have hle : old.length ≤ st.length := by omega
  have hge : st.length ≤ old.length := by omega
  have HLL := Aside0.mk hl
  have hmk := fun W : World => run_makeT W st.length (by omega)
  clear hl
  go_enter Try.func46, Try.ntmps46
  go_wp2_with fail
  refine see (F := fun w0_ => Below w.heap.size w w0_ ∧ w0_.heap[w.heap.size]? = some (.cells #[.slice A0 m.c.length c0, .slice A1 m.s.length c1, .slice A2 m.n.length c2, .slice A3 m.m.length c3, .slice A4 m.e.length c4, .int .i64 m.sk, .int .i64 m.hp] 28 (0, 0)) ∧ w0_.heap[w.heap.size + 1]? = some (.cells #[.bool true, .slice B1 old.length b1] 44 (0, 0)) ∧ w0_.heap[w.heap.size + 1 + 1]? = some (.cells #[.bool false, .slice none 0 0] 44 (0, 0)) ∧ w0_.heap[w.heap.size + 1 + 1 + 1]? = some (.cells (cellsT (List.replicate st.length tZ)).toArray 39 (0, 0))) _ ⟨bel, blk_alloc (blk3 w _ _ _).1 _, blk_alloc (blk3 w _ _ _).2.1 _, blk_alloc (blk3 w _ _ _).2.2 _, blk4o w _ _ _ _⟩ ?_
  rintro w1 ⟨hb1_, HX1, HO1, HR1, HU1⟩
  replace hb1_ := Aside0.mk hb1_
  replace HX1 := Aside0.mk HX1
  replace HO1 := Aside0.mk HO1
  replace HR1 := Aside0.mk HR1
  replace HU1 := Aside0.mk HU1
  clear dl hmk
  go_loopg [31] (st.length + 1) (fun kq v31 w' => ∃ (k : Nat) (o : List S39), v31 = .int .i64 (k : Int) ∧ Aside0 (k ≤ st.length) ∧ Aside0 (k + kq = st.length + 1) ∧ Aside0 (o.length = k) ∧ Aside0 (joinAll m.c old st = (joinAll m.c (old.drop k) (st.drop k)).map (o ++ ·)) ∧ Aside0 (w'.heap[w.heap.size]? = some (.cells #[.slice A0 m.c.length c0, .slice A1 m.s.length c1, .slice A2 m.n.length c2, .slice A3 m.m.length c3, .slice A4 m.e.length c4, .int .i64 m.sk, .int .i64 m.hp] 28 (0, 0))) ∧ Aside0 (w'.heap[w.heap.size + 1]? = some (.cells #[.bool true, .slice B1 old.length b1] 44 (0, 0))) ∧ Aside0 (w'.heap[w.heap.size + 1 + 1]? = some (.cells #[.bool false, .slice none 0 0] 44 (0, 0))) ∧ Aside0 (w'.heap[w.heap.size + 1 + 1 + 1]? = some (.cells (cellsT (o ++ List.replicate (st.length - o.length) tZ)).toArray 39 (0, 0))) ∧ Aside0 (Below w.heap.size w w'))
  case atStart => exact ⟨0, [], rfl, ⟨Nat.zero_le _⟩, ⟨by omega⟩, ⟨rfl⟩, ⟨by rw [List.drop_zero, List.drop_zero]; cases joinAll m.c old st <;> rfl⟩, HX1, HO1, HR1, HU1, hb1_⟩
  case round =>
    obtain ⟨k, o, rfl, HK, HKQ, HOLE, HJA, HX, HO, HR, HU, HL⟩ := hrel
    cases gk with
    | zero => exact absurd HK.out (by have := HKQ.out; omega)
    | succ k1 =>
      by_cases hk : k < st.length
      · have hk2 : k < old.length := by omega
        obtain ⟨ado, hA, q0, q1⟩ := at_T39 (Kd.C_below HOL.out HL.out) (k : Int) (by omega) (by omega)
        subst hA
        obtain ⟨ads, hB, r0, r1⟩ := at_T39 (Kd.C_below HS.out HL.out) (k : Int) (by omega) (by omega)
        subst hB
        simp only [Int.toNat_natCast] at q0 q1 r0 r1
        rw [tt hk2] at q0 q1
        rw [tt hk] at r0 r1
        obtain ⟨⟨x0, x1⟩, hx⟩ : ∃ t, old[k] = t := ⟨_, rfl⟩
        obtain ⟨⟨y0, y1⟩, hy⟩ : ∃ t, st[k] = t := ⟨_, rfl⟩
        rw [hx] at q0 q1
        rw [hy] at r0 r1
        dsimp only at q0 q1 r0 r1
        obtain ⟨j, hj⟩ : ∃ j, joinT m.c ⟨x0, x1⟩ ⟨y0, y1⟩ = j := ⟨_, rfl⟩
        have HJ := Aside0.mk hj
        have HST := Aside0.mk (joinAll_step hk2 hk HJA.out)
        rw [hx, hy, hj] at HST
        clear hx hy hj
        obtain ⟨j0, j1⟩ := j
        have HLO := HOLE.out
        have hkl : k < (o ++ List.replicate (st.length - o.length) tZ).length := by rw [List.length_append, List.length_replicate]; omega
        obtain ⟨hat0, hat1⟩ := cellsT_at _ k hkl
        have HAT0 := Aside0.mk hat0
        have HAT1 := Aside0.mk hat1
        clear HLO
        have hub := blk_lt HU.out
        have hadb : (ado.add (k * 2)).block < w.heap.size := by
          obtain ⟨ad_, h1_, h2_, _⟩ := at_T39 HOL.out (k : Int) (by omega) (by omega)
          injection h1_ with h1_
          subst h1_
          rw [Int.toNat_natCast] at h2_
          exact World.block_lt_of_cell? w _ h2_
        have e1 : (k : Int) < (st.length : Int) := by omega
        have e2 : (k : Int) < (old.length : Int) := by omega
        go_wp2_with fail
        refine see (F := fun w0_ => Below wr.heap.size wr w0_ ∧ w0_.cell? ⟨w.heap.size, 0, none⟩ = some (.slice A0 m.c.length c0) ∧ w0_.cell? ⟨w.heap.size + 1, 1, none⟩ = some (.slice (some ado) old.length b1) ∧ w0_.cell? (ado.add (k * 2)) = some (.int .i64 x0) ∧ w0_.cell? ⟨(ado.add (k * 2)).block, (ado.add (k * 2)).off + 1, none⟩ = some (.int .i64 x1) ∧ w0_.cell? ⟨wr.heap.size, 0, none⟩ = some (.int .i64 y0) ∧ w0_.cell? ⟨wr.heap.size, 1, none⟩ = some (.int .i64 y1)) _ ⟨bel, (blk_cell (blk_alloc HX.out _) 0).trans rfl, (blk_cell (blk_alloc HO.out _) 1).trans rfl, keepc (below_alloc (Below.refl _ _) _) q0, keepc (below_alloc (Below.refl _ _) _) q1, (blk_cell (heap_alloc_new wr _) 0).trans rfl, (blk_cell (heap_alloc_new wr _) 1).trans rfl⟩ ?_
        rintro w2 ⟨hb2_, hq1_, hq2_, hq3_, hq4_, hq5_, hq6_⟩
        replace hb2_ := Aside0.mk hb2_
        replace hq1_ := Aside0.mk hq1_
        replace hq2_ := Aside0.mk hq2_
        replace hq3_ := Aside0.mk hq3_
        replace hq4_ := Aside0.mk hq4_
        replace hq5_ := Aside0.mk hq5_
        replace hq6_ := Aside0.mk hq6_
        have HX2 := Aside0.mk (blk_below HX.out hb2_.out)
        have HO2 := Aside0.mk (blk_below HO.out hb2_.out)
        have HR2 := Aside0.mk (blk_below HR.out hb2_.out)
        have HU2 := Aside0.mk (blk_below HU.out hb2_.out)
        have KP := Aside0.mk (show ∀ w', Below w2.heap.size w2 w' → (w'.cell? ⟨w.heap.size, 0, none⟩ = some (.slice A0 m.c.length c0) ∧ w'.cell? ⟨w.heap.size + 1, 1, none⟩ = some (.slice (some ado) old.length b1) ∧ w'.cell? (ado.add (k * 2)) = some (.int .i64 x0) ∧ w'.cell? ⟨(ado.add (k * 2)).block, (ado.add (k * 2)).off + 1, none⟩ = some (.int .i64 x1) ∧ w'.cell? ⟨wr.heap.size, 0, none⟩ = some (.int .i64 y0) ∧ w'.cell? ⟨wr.heap.size, 1, none⟩ = some (.int .i64 y1)) from fun w' h => ⟨keepc h hq1_.out, keepc h hq2_.out, keepc h hq3_.out, keepc h hq4_.out, keepc h hq5_.out, keepc h hq6_.out⟩)
        refine wp_region_noPanic ?_
        refine wp_region_held_drew (S := fun w' => w'.cell? ⟨w.heap.size, 0, none⟩ = some (.slice A0 m.c.length c0) ∧ w'.cell? ⟨w.heap.size + 1, 1, none⟩ = some (.slice (some ado) old.length b1) ∧ w'.cell? (ado.add (k * 2)) = some (.int .i64 x0) ∧ w'.cell? ⟨(ado.add (k * 2)).block, (ado.add (k * 2)).off + 1, none⟩ = some (.int .i64 x1) ∧ w'.cell? ⟨wr.heap.size, 0, none⟩ = some (.int .i64 y0) ∧ w'.cell? ⟨wr.heap.size, 1, none⟩ = some (.int .i64 y1)) (by kernel_rfl) (by ((try dsimp only); first | exact ⟨cfar (cfar (keepc HB3 hq1_.out) (by first | omega | (simp; omega) | (simp; done))) (by first | omega | (simp; omega) | (simp; done)), cfar (cfar (keepc HB3 hq2_.out) (by first | omega | (simp; omega) | (simp; done))) (by first | omega | (simp; omega) | (simp; done)), cfar (cfar (keepc HB3 hq3_.out) (by first | omega | (simp; omega) | (simp; done))) (by first | omega | (simp; omega) | (simp; done)), cfar (cfar (keepc HB3 hq4_.out) (by first | omega | (simp; omega) | (simp; done))) (by first | omega | (simp; omega) | (simp; done)), cfar (cfar (keepc HB3 hq5_.out) (by first | omega | (simp; omega) | (simp; done))) (by first | omega | (simp; omega) | (simp; done)), cfar (cfar (keepc HB3 hq6_.out) (by first | omega | (simp; omega) | (simp; done))) (by first | omega | (simp; omega) | (simp; done))⟩ | exact KP.out _ bel)) (fun hHeld => ?_)
        refine tk 0 ?_
        refine tk 1 ?_
        refine tk 2 ?_
        refine tk 3 ?_
        refine tk 4 ?_
        refine tk 5 ?_
        refine tk 6 ?_
        refine tk 7 ?_
        refine tk 8 ?_
        refine tk 9 ?_
        refine tr 10 (fun K hK => ?_)
        first | ((try go_simp); go_at_call 62; (refine (join_c (Kd.C_below HM.out.h0 (below_mid (below_mid HL.out hb2_.out) (by first | exact Below.refl _ _ | exact Below.drew (Below.refl _ _) | assumption))) HM.out.n0 x0 x1 y0 y1 HJ.out).mono ?_); rintro e w3 ⟨rfl, hb3⟩; have HB3 : Below w2.heap.size w2 w3 := below_step (by first | exact Below.refl _ _ | exact Below.drew (Below.refl _ _) | assumption) hb3; have hU3 := blk_below HU2.out HB3; have hs0 := (blk_cell hU3 (k * 2)).trans hat0; have hs1 := (blk_cell hU3 (k * 2 + 1)).trans hat1; have hfr0 := blk_frozen hU3 (k * 2); have hfr1 := blk_frozen hU3 (k * 2 + 1); have HU3 := Aside0.mk hU3; have hO3 := blk_below HO2.out HB3; have hR3 := blk_below HR2.out HB3; have ho0 := (blk_cell hO3 0).trans rfl; have ho1 := (blk_cell hO3 1).trans rfl; have hq0 := (blk_cell hR3 0).trans rfl; have hq1 := (blk_cell hR3 1).trans rfl; have hg0 := blk_frozen hR3 0; have hg1 := blk_frozen hR3 1; have HR3 := Aside0.mk hR3; clear hO3 hR3 hU3 hb3) | go_simp
        refine hK.out _ _ (by ((try dsimp only); first | exact ⟨cfar (cfar (keepc HB3 hq1_.out) (by first | omega | (simp; omega) | (simp; done))) (by first | omega | (simp; omega) | (simp; done)), cfar (cfar (keepc HB3 hq2_.out) (by first | omega | (simp; omega) | (simp; done))) (by first | omega | (simp; omega) | (simp; done)), cfar (cfar (keepc HB3 hq3_.out) (by first | omega | (simp; omega) | (simp; done))) (by first | omega | (simp; omega) | (simp; done)), cfar (cfar (keepc HB3 hq4_.out) (by first | omega | (simp; omega) | (simp; done))) (by first | omega | (simp; omega) | (simp; done)), cfar (cfar (keepc HB3 hq5_.out) (by first | omega | (simp; omega) | (simp; done))) (by first | omega | (simp; omega) | (simp; done)), cfar (cfar (keepc HB3 hq6_.out) (by first | omega | (simp; omega) | (simp; done))) (by first | omega | (simp; omega) | (simp; done))⟩ | exact KP.out _ bel)) (fun hHeld => ?_)
        clear hK K
        (try simp only [Act.put, putx])
        refine tr 11 (fun K hK => ?_)
        go_simp
        refine hK.out _ _ (by ((try dsimp only); first | exact ⟨cfar (cfar (keepc HB3 hq1_.out) (by first | omega | (simp; omega) | (simp; done))) (by first | omega | (simp; omega) | (simp; done)), cfar (cfar (keepc HB3 hq2_.out) (by first | omega | (simp; omega) | (simp; done))) (by first | omega | (simp; omega) | (simp; done)), cfar (cfar (keepc HB3 hq3_.out) (by first | omega | (simp; omega) | (simp; done))) (by first | omega | (simp; omega) | (simp; done)), cfar (cfar (keepc HB3 hq4_.out) (by first | omega | (simp; omega) | (simp; done))) (by first | omega | (simp; omega) | (simp; done)), cfar (cfar (keepc HB3 hq5_.out) (by first | omega | (simp; omega) | (simp; done))) (by first | omega | (simp; omega) | (simp; done)), cfar (cfar (keepc HB3 hq6_.out) (by first | omega | (simp; omega) | (simp; done))) (by first | omega | (simp; omega) | (simp; done))⟩ | exact KP.out _ bel)) (fun hHeld => ?_)
        clear hK K
        (try simp only [Act.put, putx])
        refine tr 12 (fun K hK => ?_)
        go_simp
        refine hK.out _ _ (by ((try dsimp only); first | exact ⟨cfar (cfar (keepc HB3 hq1_.out) (by first | omega | (simp; omega) | (simp; done))) (by first | omega | (simp; omega) | (simp; done)), cfar (cfar (keepc HB3 hq2_.out) (by first | omega | (simp; omega) | (simp; done))) (by first | omega | (simp; omega) | (simp; done)), cfar (cfar (keepc HB3 hq3_.out) (by first | omega | (simp; omega) | (simp; done))) (by first | omega | (simp; omega) | (simp; done)), cfar (cfar (keepc HB3 hq4_.out) (by first | omega | (simp; omega) | (simp; done))) (by first | omega | (simp; omega) | (simp; done)), cfar (cfar (keepc HB3 hq5_.out) (by first | omega | (simp; omega) | (simp; done))) (by first | omega | (simp; omega) | (simp; done)), cfar (cfar (keepc HB3 hq6_.out) (by first | omega | (simp; omega) | (simp; done))) (by first | omega | (simp; omega) | (simp; done))⟩ | exact KP.out _ bel)) (fun hHeld => ?_)
        clear hK K
        (try simp only [Act.put, putx])
        refine wpAnyH_done (by kernel_rfl) ?_ _
        refine NoPanic.normal ?_
        have HX3 := Aside0.mk (blk_below HX2.out HB3)
        have HO3 := Aside0.mk (blk_below HO2.out HB3)
        have HBW := below_mid (below_mid HL.out hb2_.out) HB3
        by_cases hj0 : j0 = 0
        · have dj : (j0 == 0) = true := beq_iff_eq.2 hj0
          have HRE := Aside0.mk (show r = none from by rw [HRV.out, HST.out.1 hj0]; rfl)
          have HJ0 := Aside0.mk hj0
          clear hj0
          go_wp2_with fail
          have hp0 := blk_far (blk_far HR3.out (p := ⟨w.heap.size + 1 + 1 + 1, k * 2, none⟩) (by simp) (.int .i64 j0)) (p := ⟨w.heap.size + 1 + 1 + 1, k * 2 + 1, none⟩) (by simp) (.int .i64 j1)
          have hp2 := blk_put (blk_put hp0 0 (.bool true) rfl) 1 (.slice (some ado) old.length b1) rfl
          refine bodyPost_ret (results_ctt (P := Try.prog) rfl _ _ _ _ _ _ _ rfl hp2 Try.underlying44 rfl infoSH) rfl ?_
          exact ⟨below_set (below_set (below_set (below_set HBW (by omega)) (by omega)) (by omega)) (by omega), fun _ => ⟨_, _, _, rfl⟩, fun s tu h => by rw [HRE.out] at h; cases h⟩
        · have dj : (j0 == 0) = false := beq_eq_false_iff_ne.2 hj0
          have HJN := Aside0.mk (HST.out.2 hj0)
          clear hj0
          go_wp2_with fail
          go_roundg k1
          case measure => have := HKQ.out; omega
          case rel =>
            have hof := HOLE.out
            refine ⟨k + 1, o ++ [⟨j0, j1⟩], by go_num, ⟨by omega⟩, ⟨by have := HKQ.out; omega⟩, ⟨by rw [List.length_append, List.length_singleton, hof]⟩, ⟨HJN.out⟩, ⟨blk_far (blk_far HX3.out (by simp; omega) _) (by simp; omega) _⟩, ⟨blk_far (blk_far HO3.out (by simp) _) (by simp) _⟩, ⟨blk_far (blk_far HR3.out (by simp) _) (by simp) _⟩, ⟨?_⟩, ⟨below_set (below_set HBW (by omega)) (by omega)⟩⟩
            refine blk_put (blk_put HU3.out (k * 2) _ rfl) (k * 2 + 1) _ ?_
            rw [cellsT_set _ k ⟨j0, j1⟩ hkl, ← set_fill o st.length ⟨j0, j1⟩ (by omega), hof]
      · have hke : k = st.length := by have := HK.out; omega
        have hof := HOLE.out
        have hos : st.length = o.length := by omega
        have HOS := Aside0.mk hos
        have HRE := Aside0.mk (show r = some ((true, o), decide (o ≠ old)) from by
          have h := HJA.out
          rw [List.drop_eq_nil_of_le (by omega), List.drop_eq_nil_of_le (by omega)] at h
          rw [HRV.out, h]
          simp [joinAll])
        have HUO := Aside0.mk (show wr.heap[w.heap.size + 1 + 1 + 1]? = some (.cells (cellsT o).toArray 39 (0, 0)) from by
          have h := HU.out
          rw [hos, Nat.sub_self, List.replicate_zero, List.append_nil] at h
          exact h)
        have hrow : RowT wr (w.heap.size + 1 + 1 + 1) (.slice (some ⟨w.heap.size + 1 + 1 + 1, 0, none⟩) o.length o.length) o := RowT.blk HUO.out (by omega) (Nat.le_refl _)
        have HRW := Aside0.mk hrow
        obtain ⟨Az, cz, ez, hz, hzC⟩ := hrow.form
        injection ez with ez1 _ ez3
        subst ez1 ez3
        have HCO := Aside0.mk hzC
        clear hrow hzC hof hos
        have io := (blk_cell HO.out 1).trans rfl
        have hOlt := blk_lt HO.out
        subst hke
        clear hk HU HJA HOLE
        obtain ⟨p, hp⟩ : ∃ p, decide (o = old) = p := ⟨_, rfl⟩
        have HPE := Aside0.mk hp
        clear hp
        go_wp2_with (first | (go_at_call 63; (refine (eq_n HOS.out (Kd.C_below HCO.out bel) (by have := HOS.out; omega) (Kd.C_below HOL.out (below_mid HL.out bel)) hoc HPE.out).mono ?_); rintro e w5 ⟨rfl, hb5⟩; have HB5 : Below wr.heap.size wr w5 := below_step bel hb5; have hR5 := blk_below HR.out HB5; have hq0 := (blk_cell hR5 0).trans rfl; have hq1 := (blk_cell hR5 1).trans rfl; have hg0 := blk_frozen hR5 0; have hg1 := blk_frozen hR5 1; clear hR5 hb5))
        have HG := blk_put (blk_put (blk_below HR.out HB5) 0 (.bool true) rfl) 1 (.slice (some ⟨w.heap.size + 1 + 1 + 1, 0, none⟩) st.length st.length) rfl
        refine bodyPost_ret (results_ctt (P := Try.prog) rfl _ _ _ _ _ _ _ rfl HG Try.underlying44 rfl infoSH) rfl ?_
        refine ⟨below_set (below_set (below_mid HL.out HB5) (by omega)) (by omega), (fun h => by rw [HRE.out] at h; cases h), fun s tu h => ?_⟩
        rw [HRE.out] at h
        injection h with h; injection h with h1 h2
        subst h1
        have h3 : tu = !p := by rw [← h2, ← HPE.out]; simp
        subst h3
        refine ⟨rfl, _, rfl, ?_⟩
        rw [HOS.out]
        exact (((HRW.out.below HB5).set (by simp) _).set (by simp) _).lower (by omega)
end Go.Proofs.Ytcfbhobpfnlkpaa.Flow
