/- Contracts of Give, said of the state. -/
import Derived.Test.YtgpekomaoeockaaMemE0
import Derived.Lib.SliceRun
namespace Go.Proofs.Ytgpekomaoeockaa.MemC
open Go.RowKit Go.Proofs.YtgpekomaoeockaaW.PrintWords Go.Proofs.YtgpekomaoeockaaW.PrintLast Go.Proofs.YtgpekomaoeockaaW.PrintMore Go.Proofs.Ytgpekomaoeockaa.QMemSizes
set_option linter.unusedVariables false
/-- Region id stands at place m. -/
def At (rs : List Reg) (id : Int) (m : Nat) : Prop := ∃ h : m < rs.length, rs[m].1 = id ∧ ∀ j (h : j < rs.length), j < m → rs[j].1 ≠ id
def Free (rs : List Reg) (id : Int) : Prop := ∀ j (h : j < rs.length), rs[j].1 ≠ id
set_option maxHeartbeats 8000000 in
set_option maxRecDepth 100000 in
theorem MS.give_neg {w : World} {base p sb hb : Nat} {st : List Int} {n : Nat} {rs : List Reg} {lv : Value} (h : MS w base p sb hb st n rs lv) (c : Int) (hc : c < 0) :
    Calls Try.prog 9 #[.pointer (some ⟨p, 0, none⟩), .int .i64 c] w fun e w' => e = .returned (.tuple #[.int .i64 0, .bool false]) ∧ Below w.heap.size w w' := by
  have cr : decide (c < 0) = true := decide_eq_true hc
  clear hc h
  go_enter Try.func9, Try.ntmps9
  go_wp2_with fail
  go_ret2
  exact ⟨rfl, Below.refl _ _⟩
set_option maxHeartbeats 8000000 in
set_option maxRecDepth 100000 in
theorem MS.give_over {w : World} {base p sb hb : Nat} {st : List Int} {n : Nat} {rs : List Reg} {lv : Value} (h : MS w base p sb hb st n rs lv) (hl : rs.length ≤ 1000000000) (c : Int) (h0 : 0 ≤ c) (hc : (n : Int) - ((tot rs : Nat) : Int) < c) :
    Calls Try.prog 9 #[.pointer (some ⟨p, 0, none⟩), .int .i64 c] w fun e w' => e = .returned (.tuple #[.int .i64 0, .bool false]) ∧ Below w.heap.size w w' := by
  have cr : decide (c < 0) = false := decide_eq_false (by omega)
  have cr2 : decide ((n : Int) - ((tot rs : Nat) : Int) < c) = true := decide_eq_true hc
  have H := Aside0.mk h
  have HL := Aside0.mk hl
  clear hc h h0 hl
  go_enter Try.func9, Try.ntmps9
  go_wp2_with fail
  refine (H.out.room HL.out).mono ?_
  rintro e w5 ⟨rfl, hb⟩
  have HB := Aside0.mk hb
  clear hb
  go_wp2_with fail
  go_ret2
  exact ⟨rfl, HB.out⟩
set_option maxHeartbeats 8000000 in
set_option maxRecDepth 100000 in
theorem MS.give {w : World} {base p sb hb : Nat} {st : List Int} {n : Nat} {rs : List Reg} {lv : Value} (h : MS w base p sb hb st n rs lv) (hl : rs.length ≤ 1000000000) (c : Nat) (hc : tot rs + c ≤ n) (id : Nat) (hid : id ≤ 1000000000)
    (hused : ∀ j : Nat, j < id → ∃ m, At rs (j : Int) m) (hfree : Free rs (id : Int)) :
    Calls Try.prog 9 #[.pointer (some ⟨p, 0, none⟩), .int .i64 (c : Int)] w fun e w' => e = .returned (.tuple #[.int .i64 (id : Int), .bool true]) ∧ ∃ lv', MS w' base p sb hb st n (rs ++ [((id : Int), List.replicate c 0)]) lv' ∧ Below base w w' ∧ Kept w w' (fun k => k = p ∨ k = hb ∨ lv.ownBlock = some k) ∧ (lv'.ownBlock = lv.ownBlock ∨ ∃ b, lv'.ownBlock = some b ∧ w.heap.size ≤ b) := by
  have cr : decide ((c : Int) < 0) = false := decide_eq_false (by omega)
  have cr2 : decide ((n : Int) - ((tot rs : Nat) : Int) < (c : Int)) = false := decide_eq_false (by omega)
  have H := Aside0.mk h
  have HL := Aside0.mk hl
  have HC := Aside0.mk hc
  have HB0 := Aside0.mk (show base ≤ w.heap.size from Nat.le_of_lt (Nat.lt_of_le_of_lt h.bp (blk_lt h.box)))
  have HI := Aside0.mk hid
  have HU := Aside0.mk hused
  have HF := Aside0.mk hfree
  clear hc h hl hid hused hfree
  go_enter Try.func9, Try.ntmps9
  go_wp2_with fail
  refine (H.out.room HL.out).mono ?_
  rintro e w5 ⟨rfl, hb⟩
  have HB := Aside0.mk hb
  have HM := Aside0.mk (H.out.below hb)
  clear hb
  go_wp2_with fail
  go_loopg [6] (id + 1) (fun kq v6 w' => ∃ (k : Nat), v6 = .int .i64 (k : Int) ∧ Aside0 (k ≤ id) ∧ Aside0 (k + kq = id + 1) ∧ Aside0 (MS w' base p sb hb st n rs lv) ∧ Aside0 (Below w.heap.size w w'))
  case atStart => exact ⟨0, rfl, ⟨Nat.zero_le _⟩, ⟨by omega⟩, HM, HB⟩
  case round =>
    clear HB HM
    obtain ⟨k, rfl, HK, HQ, HM, HB⟩ := hrel
    cases gk with
    | zero => exact absurd HK.out (by have := HQ.out; omega)
    | succ k1 =>
      by_cases hk : k < id
      · obtain ⟨m, hm, he, hn⟩ := HU.out k hk
        go_wp2_with fail
        refine (HM.out.at_yes HL.out (k : Int) m hm he hn).mono ?_
        rintro e w6 ⟨rfl, hb⟩
        have HM2 := Aside0.mk (HM.out.below hb)
        have HB2 := Aside0.mk (below_step HB.out hb)
        have hk2 : (k : Int) ≤ 1000000000 := by have := HI.out; omega
        have HK2 := Aside0.mk hk
        clear hb hm he hn hk
        go_wp2
        go_roundg k1
        case measure => have := HQ.out; omega
        case rel => exact ⟨k + 1, by go_num, ⟨HK2.out⟩, ⟨by have := HQ.out; omega⟩, HM2, HB2⟩
      · obtain rfl : k = id := by have := HK.out; omega
        go_wp2_with fail
        refine (HM.out.at_no HL.out (k : Int) HF.out).mono ?_
        rintro e w6 ⟨rfl, hb⟩
        have HM2 := Aside0.mk (HM.out.below hb)
        have HB2 := Aside0.mk (below_step HB.out hb)
        clear hb hk
        go_wp2_with fail
        refine (HM2.out.used HL.out).mono ?_
        rintro e w7 ⟨rfl, hb⟩
        have HM3 := Aside0.mk (HM2.out.below hb)
        have HB3 := Aside0.mk (below_step HB2.out hb)
        clear hb HM HM2 HB HB2
        have hc1 := HM3.out.c1
        have hT := HC.out
        have hN := HM3.out.nb
        have s1 : (0 ≤ ((tot rs : Nat) : Int)) = True := eq_true (by omega)
        have s2 : (((tot rs : Nat) : Int) ≤ ((tot rs : Nat) : Int) + (c : Int)) = True := eq_true (by omega)
        have s3 : (((tot rs : Nat) : Int) + (c : Int) ≤ (n : Int)) = True := eq_true (by omega)
        have s4 : (0 ≤ ((tot rs : Nat) : Int) + (c : Int)) = True := eq_true (by omega)
        have hu29 := Try.underlying29
        obtain ⟨j2, hj1, hj2⟩ := HM3.out.cleared c HC.out
        have HM4 := Aside0.mk (HM3.out.clear_ms c HC.out)
        have HB4 := Aside0.mk (Below.trans (HB3.out.mono HB0.out) (⟨(setCells_same hb (List.replicate c (Value.int .i32 0)) (tot rs) w7).1, (setCells_same hb (List.replicate c (Value.int .i32 0)) (tot rs) w7).2.1, (setCells_same hb (List.replicate c (Value.int .i32 0)) (tot rs) w7).2.2.1, Nat.le_of_eq (setCells_same hb (List.replicate c (Value.int .i32 0)) (tot rs) w7).2.2.2.symm, fun k hk => setCells_far _ _ k (by have := HM3.out.bh; omega)⟩ : Below base w7 (w7.setCells hb (tot rs) (List.replicate c (.int .i32 0)))))
        have HT4 := Aside0.mk (show Kept w (w7.setCells hb (tot rs) (List.replicate c (.int .i32 0))) (fun k => k = p ∨ k = hb ∨ lv.ownBlock = some k) from (Kept.of_below HB3.out _).then_ (S2 := fun k => k = hb) ⟨Nat.le_of_eq (setCells_same hb (List.replicate c (Value.int .i32 0)) (tot rs) w7).2.2.2.symm, fun k _ hk => setCells_far _ _ k hk⟩ (fun k hk => .inl (.inr (.inl hk))))
        have HJ := Aside0.mk hj1
        have HJ2 := Aside0.mk hj2
        clear hj1 hj2
        have hcl : ∀ ty, (Builtin.clear_ #[29] ty #[.slice (if n = tot rs then some ⟨hb, 0, none⟩ else some ⟨hb, tot rs, none⟩) c (n - tot rs)]).run Try.prog w7 = .ok (.tuple #[]) (w7.setCells hb (tot rs) (List.replicate c (.int .i32 0))) := by
          intro ty
          rcases Nat.eq_zero_or_pos c with h0 | h0
          · subst h0
            exact run_clear_none w7 29 ty 21 Try.underlying29 _ _
          · rw [if_neg (by omega)]
            obtain ⟨j, hj, hjn⟩ := HM3.out.hea
            refine Lib.run_clear_slice w7 29 21 ty (.int .i32 0) Try.underlying29 (fun w => by kernel_rfl) rfl rfl hb (tot rs) c _ h0 (fun q hq => ?_) (fun q hq => blk_frozen hj _)
            rw [blk_cell hj]
            rw [List.getElem?_toArray, List.getElem?_eq_getElem (by rw [nums_len, List.length_append]; show _ < tot rs + _; omega)]
            rfl
        obtain ⟨w8, hw8⟩ : ∃ w8, w7.setCells hb (tot rs) (List.replicate c (.int .i32 0)) = w8 := ⟨_, rfl⟩
        rw [hw8] at HM4 HB4 HT4 HJ hcl
        clear hw8
        have hc2 := HM4.out.c2
        have HS4 := Aside0.mk (show base ≤ w8.heap.size from Nat.le_of_lt (Nat.lt_of_le_of_lt HM4.out.bp (blk_lt HM4.out.box)))
        have HL4 := Aside0.mk (show (rs.length + 1) * 24 ≤ 140737488355328 by have := HL.out; omega)
        have hu46 := Try.underlying46
        go_wp2_with (first | ((with_reducible refine gate_builtin (b := .append) (xs := #[.tmp 41, .tmp 46]) rfl ?_); at_builtin; refine print_append_cells (w0 := w) base rfl (.tmp 41) (.tmp 46) 46 50 (.agg #[.int .i64 0, .int .i64 0, .int .i64 0]) 3 24 rfl Try.underlying46 info50 rfl (by decide) (by decide) lv rs.length (cells50 (lay 0 rs)) [.int .i64 (k : Int), .int .i64 ((tot rs : Nat) : Int), .int .i64 (c : Int)] rfl rfl rfl (by simp [Value.oneCell']) HM4.out.lst HB4.out HS4.out HL4.out ?_; intro v1 w1 ho1 hb1 hg1 hat1; obtain ⟨A1, c1, rfl⟩ := own_slice ho1; have b1 := Aside0.mk (blk_grown HM4.out.box hg1 (fun e => HM4.out.lv_ne_p e.symm)); have hcz := (blk_cell b1.out 2).trans rfl; have hfz := blk_frozen b1.out 2; have HO1 := Aside0.mk ho1; have HB5 := Aside0.mk hb1; have HG1 := Aside0.mk hg1; have HA1 := Aside0.mk hat1; clear ho1 hb1 hg1 hat1))
        all_goals go_ret2
        all_goals
          have XM := HM4.out.give_end c (k : Int) HJ.out HJ2.out HO1.out HG1.out
          have XB := HB5.out.setCell HM4.out.bp (p := ⟨p, 2, none⟩) (.slice A1 (rs.length + 1) c1)
          have XK := ((Kept.of_grown HG1.out HT4.out (fun k hk => .inl (.inr (.inr hk)))).setCell (p := ⟨p, 2, none⟩) (.inl (.inl rfl)) (.slice A1 (rs.length + 1) c1))
          have XO : (Value.slice A1 (rs.length + 1) c1).ownBlock = lv.ownBlock ∨ ∃ b, (Value.slice A1 (rs.length + 1) c1).ownBlock = some b ∧ w.heap.size ≤ b := by
            rcases HA1.out with h | ⟨b, h, hle⟩
            · exact .inl h
            · exact .inr ⟨b, h, Nat.le_trans HT4.out.1 hle⟩
          try (have e : n = tot rs := by assumption
               subst e)
          exact ⟨rfl, _, XM, XB, XK, XO⟩
end Go.Proofs.Ytgpekomaoeockaa.MemC
