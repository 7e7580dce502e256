/- Contracts of Drop, said of the state. -/
import Derived.Test.YtgpekomaoeockaaMemF4
import Derived.RegionTactic
import Derived.ChangeAlike
namespace Go.Proofs.Ytgpekomaoeockaa.MemC
open Go.RowKit Go.Proofs.YtgpekomaoeockaaW.PrintWords Go.Proofs.YtgpekomaoeockaaW.PrintLast Go.Proofs.YtgpekomaoeockaaW.PrintMore Go.Proofs.Ytgpekomaoeockaa.QMemSizes
set_option linter.unusedVariables false
set_option maxHeartbeats 8000000 in
set_option maxRecDepth 100000 in
theorem MS.drop_no {w : World} {base p sb hb : Nat} {st : List Int} {n : Nat} {rs : List Reg} {lv : Value} (h : MS w base p sb hb st n rs lv) (hl : rs.length ≤ 1000000000) (id : Int) (hn : Free rs id) :
    Calls Try.prog 10 #[.pointer (some ⟨p, 0, none⟩), .int .i64 id] w fun e w' => e = .returned (.bool false) ∧ Below w.heap.size w w' := by
  have HH := Aside0.mk (h.at_no hl id hn)
  clear h hl hn
  go_enter Try.func10, Try.ntmps10
  go_wp2_with fail
  refine (HH.out).mono ?_
  rintro e w5 ⟨rfl, hb⟩
  have HB := Aside0.mk hb
  clear hb
  go_wp2
  go_ret
  exact ⟨rfl, HB.out⟩
theorem cell_far {w : World} {a : Addr} {g o : Nat} {cs : List Value} {v : Value} (h : w.cell? a = some v) (hne : a.block ≠ g) : (w.setCells g o cs).cell? a = some v := (World.cell?_setCells_out g cs o w a (fun e _ => absurd e hne)).trans h
theorem step_copy {P : Program} {ops : Array Oper} {o : Oper} {a : Act} {Q : Exit → Act → World → Prop} {K : Act → World → Prop} {E : Prop} {W W1 : World} {t t' : TypeId} {s x : Operand} {v u r : Value} (hg : o.guard = none) (ho : o.op = .call { callee := .builtin .copy, args := #[s, x], argTypes := #[t, t'] }) (hs : a.eval s = v) (hx : a.eval x = u)
    (hr : (Builtin.copy_ #[t, t'] o.type #[v, u]).run P W = .ok r W1) (hK : K (a.put o.dst r) W1) : if Region.wanted o (yielded ops a.tmps) = true then Oper.wp P o a W K Q else E := by
  have hw : Region.wanted o (yielded ops a.tmps) = true := by simp [Region.wanted, hg]
  rw [if_pos hw]
  unfold Oper.wp
  simp [execOp, ho, resolve, invoke, builtin, hs, hx, hr, Result.andThen]
  exact hK
set_option maxHeartbeats 8000000 in
set_option maxRecDepth 100000 in
theorem MS.drop {w : World} {base p sb hb : Nat} {st : List Int} {n : Nat} {rs : List Reg} {lv : Value} (h : MS w base p sb hb st n rs lv) (hl : rs.length ≤ 1000000000) (id : Int) (k : Nat) (hk : k < rs.length) (he : rs[k].1 = id) (hn : ∀ j (h : j < rs.length), j < k → rs[j].1 ≠ id) :
    Calls Try.prog 10 #[.pointer (some ⟨p, 0, none⟩), .int .i64 id] w fun e w' => e = .returned (.bool true) ∧ ∃ lv', MS w' base p sb hb st n (without rs k) lv' ∧ Below base w w' ∧ Kept w w' (fun k => k = p ∨ k = hb ∨ lv.ownBlock = some k) ∧ lv'.ownBlock = lv.ownBlock := by
  have HH := Aside0.mk (h.at_yes hl id k hk he hn)
  have HL := Aside0.mk hl
  have HK := Aside0.mk hk
  have H := Aside0.mk h
  have HB0 := Aside0.mk (show base ≤ w.heap.size from Nat.le_of_lt (Nat.lt_of_le_of_lt h.bp (blk_lt h.box)))
  obtain ⟨g, cap, rfl, hbg, hcur⟩ : ∃ g cap, lv = .slice (some ⟨g, 0, none⟩) rs.length cap ∧ base ≤ g ∧ Aside0 (∃ cur, w.heap[g]? = some (.cells cur 50 (0, 0)) ∧ cur.size = cap * 3 ∧ cur.toList.take (rs.length * 3) = cells50 (lay 0 rs) ∧ rs.length ≤ cap ∧ cap ≤ 9223372036854775807) := by
    rcases h.lst.2 with ⟨_, h0⟩ | ⟨g, cap, cur, hv, hbg, hh, hnc, hcm, hcs, ht⟩
    · omega
    · exact ⟨g, cap, hv, hbg, ⟨cur, hh, hcs, ht, hnc, by simpa [maxLen] using hcm⟩⟩
  obtain ⟨A, c, ea, hC, hc⟩ := h.list
  rw [lay_length] at ea hc
  injection ea with ea ea2 ea3
  subst ea
  subst ea3
  obtain ⟨ad, eb, hx0, hx1, hx2⟩ := at_T50 hC (k : Int) (by omega) (by rw [lay_length]; omega)
  injection eb with eb
  subst eb
  rw [rd_lay 0 rs k hk, Nat.zero_add] at hx0 hx1 hx2
  simp only [Addr.add_lit, Int.toNat_natCast, Nat.zero_add] at hx0 hx1 hx2
  have HX0 := Aside0.mk hx0
  have HX1 := Aside0.mk hx1
  have HX2 := Aside0.mk hx2
  have p1 : (0 ≤ (k : Int)) = True := eq_true (by omega)
  have q1 : ((k : Int) < (rs.length : Int)) = True := eq_true (by omega)
  obtain ⟨fr, hfr⟩ : ∃ fr, tot (rs.take k) = fr := ⟨_, rfl⟩
  obtain ⟨sz, hsz⟩ : ∃ sz, rs[k].2.length = sz := ⟨_, rfl⟩
  have HC := Aside0.mk hc
  clear h hl he hn hx0 hx1 hx2 hC hc ea2
  go_enter Try.func10, Try.ntmps10
  go_wp2_with fail
  refine (HH.out).mono ?_
  rintro e w5 ⟨rfl, hb⟩
  have HB := Aside0.mk hb
  have HM := Aside0.mk (H.out.below hb)
  have hp5 := HM.out.c2
  have hx0 := keep_cell hb HX0.out
  have hx1 := keep_cell hb HX1.out
  have hx2 := keep_cell hb HX2.out
  rw [hfr] at hx1
  rw [hsz] at hx2
  clear hb
  have hg1 := Aside0.mk (show tot (rs.take k) + (rs[k].2.length + tot (rs.drop (k + 1))) = tot rs from (tot_split rs k hk).symm)
  have htn := Aside0.mk HM.out.tn
  have hnb := Aside0.mk HM.out.nb
  rw [hfr, hsz] at hg1
  go_wp2
  have HA6 := Aside0.mk (show (w5.alloc (Obj.cells #[Value.int IntKind.i64 rs[k].1, Value.int IntKind.i64 (fr : Int), Value.int IntKind.i64 (sz : Int)] 50)).heap[w5.heap.size]? = some (.cells #[Value.int IntKind.i64 rs[k].1, Value.int IntKind.i64 (fr : Int), Value.int IntKind.i64 (sz : Int)] 50 (0, 0)) from heap_alloc_new w5 _)
  have HM6 := Aside0.mk (HM.out.below (below_alloc (Below.refl _ _) (Obj.cells #[Value.int IntKind.i64 rs[k].1, Value.int IntKind.i64 (fr : Int), Value.int IntKind.i64 (sz : Int)] 50)))
  have HB6 := Aside0.mk (below_step HB.out (below_alloc (Below.refl w5.heap.size w5) (Obj.cells #[Value.int IntKind.i64 rs[k].1, Value.int IntKind.i64 (fr : Int), Value.int IntKind.i64 (sz : Int)] 50)))
  have HG6 := Aside0.mk HB.out.size
  clear hp5 hx0 hx1 hx2 HM
  generalize w5.alloc (Obj.cells #[Value.int IntKind.i64 rs[k].1, Value.int IntKind.i64 (fr : Int), Value.int IntKind.i64 (sz : Int)] 50) = w6 at *
  generalize w5.heap.size = gb at *
  have hc1 := HM6.out.c1
  have hc2 : w6.cell? ⟨gb, 1, none⟩ = some (.int .i64 (fr : Int)) := (blk_cell HA6.out 1).trans rfl
  have hc3 : w6.cell? ⟨gb, 2, none⟩ = some (.int .i64 (sz : Int)) := (blk_cell HA6.out 2).trans rfl
  have e1 : IntKind.i64.wrap ((fr : Int) + (sz : Int)) = (fr : Int) + (sz : Int) := by have h1 := hg1.out; have h2 := htn.out; have h3 := hnb.out; rw [i64_w]; unfold wrap64; omega
  have e2 : wrap64 ((fr : Int) + (sz : Int)) = (fr : Int) + (sz : Int) := by have h1 := hg1.out; have h2 := htn.out; have h3 := hnb.out; clear e1; unfold wrap64; omega
  have s1 : (0 ≤ (fr : Int)) = True := eq_true (by clear e1 e2; omega)
  have s2 : ((fr : Int) ≤ (n : Int)) = True := eq_true (by have h1 := hg1.out; have h2 := htn.out; have h3 := hnb.out; clear e1 e2; omega)
  have s3 : ((fr : Int) + (sz : Int) ≤ ((tot rs : Nat) : Int)) = True := eq_true (by have h1 := hg1.out; have h2 := htn.out; have h3 := hnb.out; clear e1 e2; omega)
  have s4 : (((tot rs : Nat) : Int) ≤ (n : Int)) = True := eq_true (by have h1 := hg1.out; have h2 := htn.out; have h3 := hnb.out; clear e1 e2; omega)
  have s5 : (0 ≤ (fr : Int) + (sz : Int)) = True := eq_true (by clear e1 e2; omega)
  have tn : ((fr : Int) + (sz : Int)).toNat = fr + sz := by clear e1 e2; omega
  have hu29 := Try.underlying29
  have HCR : Aside0 (∀ W, MS W base p sb hb st n rs (.slice (some ⟨g, 0, none⟩) rs.length cap) → ∀ ty, (Builtin.copy_ #[29, 29] ty #[.slice (if n = fr then some ⟨hb, 0, none⟩ else some ⟨hb, fr, none⟩) (n - fr) (n - fr), .slice (if n = fr + sz then some ⟨hb, 0, none⟩ else some ⟨hb, fr + sz, none⟩) (tot rs - (fr + sz)) (n - (fr + sz))]).run Try.prog W
      = .ok (goInt ((tot (rs.drop (k + 1)) : Nat) : Int)) (W.setCells hb fr (nums .i32 (flat (rs.drop (k + 1)))))) := ⟨fun W hW ty => by rw [← hfr, ← hsz]; exact hW.copy_run k hk ty⟩
  have HPH := Aside0.mk HM6.out.p_ne_h
  have HGH := Aside0.mk (show gb ≠ hb by obtain ⟨j0, h1, _⟩ := HM6.out.hea; exact blk_ne HA6.out h1 (by decide))
  obtain ⟨bA, hA', bB, hB', HC2⟩ : ∃ bA : Prop, (n = fr) = bA ∧ ∃ bB : Prop, (n = fr + sz) = bB ∧ ((bA = False ∧ bB = False) ∨ (bA = False ∧ bB = True) ∨ (bA = True ∧ bB = True)) := by
    have h1 := hg1.out
    have h2 := htn.out
    clear e1 e2
    refine ⟨_, rfl, _, rfl, ?_⟩
    by_cases hA : n = fr
    · exact .inr (.inr ⟨eq_true hA, eq_true (by omega)⟩)
    · by_cases hB : n = fr + sz
      · exact .inr (.inl ⟨eq_false hA, eq_true hB⟩)
      · exact .inl ⟨eq_false hA, eq_false hB⟩
  rcases HC2 with ⟨rfl, rfl⟩ | ⟨rfl, rfl⟩ | ⟨rfl, rfl⟩
  all_goals simp only [hA', hB', if_true, if_false] at HCR
  all_goals go_region_held3 (fun w' => w'.cell? ⟨p, 1, none⟩ = some (.slice (some ⟨hb, 0, none⟩) n n) ∧ w'.cell? ⟨gb, 1, none⟩ = some (.int .i64 (fr : Int)) ∧ w'.cell? ⟨gb, 2, none⟩ = some (.int .i64 (sz : Int)) ∧ ∃ w7, Below w6.heap.size w6 w7 ∧ (w' = w7 ∨ w' = w7.setCells hb fr (nums .i32 (flat (rs.drop (k + 1)))))) (first | ((try dsimp only); refine ⟨?_, ?_, ?_, ?_⟩ <;> first | exact ⟨_, Below.drew (Below.refl _ _), .inl rfl⟩ | exact ⟨_, by assumption, .inl rfl⟩ | exact ⟨_, by assumption, .inr rfl⟩ | assumption | exact keep_cell (Below.drew (Below.refl _ _)) hc1 | exact keep_cell (by assumption) hc1 | exact keep_cell (Below.drew (Below.refl _ _)) hc2 | exact keep_cell (by assumption) hc2 | exact keep_cell (Below.drew (Below.refl _ _)) hc3 | exact keep_cell (by assumption) hc3 | exact cell_far (keep_cell (by assumption) hc1) HPH.out | exact cell_far (keep_cell (by assumption) hc2) HGH.out | exact cell_far (keep_cell (by assumption) hc3) HGH.out)) (first | (go_simp; go_at_call 15; refine ((HM6.out.below (by first | exact Below.drew (Below.refl _ _) | assumption | exact And.right (And.right (And.right (by assumption))))).used HL.out).mono ?_; rintro e w7 ⟨rfl, hbw⟩; have HB7 : Below w6.heap.size w6 w7 := below_step (by first | exact Below.drew (Below.refl _ _) | assumption | exact And.right (And.right (And.right (by assumption)))) hbw; clear hbw) | (refine step_copy (by rfl) (by rfl) (by first | rfl | (simp [Act.eval, Act.put, tn, hB']; done)) (by first | rfl | (simp [Act.eval, Act.put, tn, hB']; done)) (HCR.out _ (HM6.out.below (by assumption)) _) ?_))
  all_goals
    have hN := HL.out
    have HGG := Aside0.mk (show gb ≠ g by obtain ⟨c0, h0, _⟩ := hcur.out; have h1 := blk_lt h0; have h2 := HG6.out; omega)
    have hw8 : Aside0 (LI0 w (w7.setCells hb fr (nums .i32 (flat (rs.drop (k + 1))))) base p sb hb g gb cap rs.length st n rs k rs[k].1 fr sz) := ⟨by
      have hB7 : Below w.heap.size w w7 := below_step HB6.out HB7
      have h := LI0.of (w := w) (HM6.out.below HB7) hk (by obtain ⟨c0, h0, h1⟩ := hcur.out; exact ⟨c0, (hB7.block g (blk_lt h0)).trans h0, h1⟩) (id := rs[k].1) (fr := fr) (sz := sz) (gb := gb) ((HB7.block gb (blk_lt HA6.out)).trans HA6.out) (hB7.mono HB0.out) (Kept.of_below hB7 _)
      rw [hfr] at h
      exact h⟩
    have HP := Aside0.mk HM6.out.bp
    have HS := Aside0.mk HM6.out.bs
    have HHB := Aside0.mk HM6.out.bh
    have HNE := Aside0.mk HM6.out.ne
    have HSN := Aside0.mk HM6.out.sn
    clear HB7 e1 e2 s1 s2 s3 s4 s5 tn hc1 hc2 hc3 hA' hB' HCR HM6 HA6 HB6 HG6 HPH HGH
    rename_i hHeld_
    clear hHeld_
    generalize w7.setCells hb fr (nums .i32 (flat (rs.drop (k + 1)))) = w8 at *
    have hp8 := (blk_cell hw8.out.box 2).trans rfl
    have hk9 : (k : Int) ≤ 1000000000 := by omega
    obtain ⟨cur, hg8, hs8, ht8, hn8, hm8⟩ := hw8.out.lst
    have hg8' := Aside0.mk hg8
    have hs8' := Aside0.mk hs8
    have ht8' := Aside0.mk ht8
    clear hg8 hs8 ht8
    go_wp2_with fail
    refine (delete.calls g rs.length cap k (cells50 (lay 0 rs)) cur _ hg8'.out hs8'.out ht8'.out (cells50_one _) hn8 hm8 hk).mono ?_
    rintro e w9 ⟨rfl, h9⟩
    have HLI := Aside0.mk (LI.of hw8.out hk hsz HP.out hbg HGG.out h9)
    have hb9 := hw8.out.box9 h9
    have hcz := (blk_cell hb9 2).trans rfl
    have hfz := blk_frozen hb9 2
    have HN1 := Aside0.mk (without_length rs k hk)
    have hN1 : ((rs.length - 1 : Nat) : Int) ≤ 1000000000 := by omega
    have HCC := Aside0.mk (show rs.length - 1 ≤ cap by omega)
    have HKN := Aside0.mk (show k ≤ rs.length - 1 by omega)
    clear h9 hb9 hp8
    generalize rs.length - 1 = N1 at *
    go_wp2_with fail
    have HLI2 := HLI
    clear HLI hcz hfz
    generalize (w9.setCell ⟨p, 2, none⟩ (.slice (some ⟨g, 0, none⟩) N1 cap)) = w10 at *
    go_loopg [7] (N1 - k + 1) (fun kq v7 w' => ∃ (i : Nat), v7 = .int .i64 (i : Int) ∧ Aside0 (i ≤ N1) ∧ Aside0 (i + kq = N1 + 1) ∧ Aside0 (LI w w' base p sb hb g gb cap N1 st n (without rs k) rs[k].1 fr sz i))
    case atStart => exact ⟨k, rfl, HKN, ⟨by have := HKN.out; omega⟩, HLI2⟩
    case round =>
      clear HLI2
      obtain ⟨i, rfl, HI, HQ, HLI⟩ := hrel
      have hi9 : (i : Int) ≤ 1000000000 := by have := HI.out; omega
      have hp9 := (blk_cell HLI.out.box 2).trans rfl
      cases gk with
      | zero => exact absurd HI.out (by have := HQ.out; omega)
      | succ k1 =>
        by_cases hlt : i < N1
        · have hx1 := HLI.out.cell HN1.out hlt
          have hx2 := (blk_cell HLI.out.gon 2).trans rfl
          have hfx : wr.frozen? ⟨g, i * 3 + 1, none⟩ = false := by obtain ⟨c0, h0, _⟩ := HLI.out.lst; exact blk_frozen h0 _
          have HNX := Aside0.mk (HLI.out.next HN1.out hlt hbg HGG.out).drew
          have hb1 : ((tot ((without rs k).take i) : Nat) : Int) + (sz : Int) ≤ 65536 := by
            have := tot_take_le (without rs k) i
            have h2 := tot_without rs k hk
            have h3 := htn.out
            have h4 := hnb.out
            omega
          have z1 : (0 ≤ (i : Int)) = True := eq_true (by omega)
          have z2 : ((i : Int) < (N1 : Int)) = True := eq_true (by omega)
          have HI2 := Aside0.mk hlt
          generalize tot ((without rs k).take i) = ti at *
          go_wp2_with fail
          go_region
          go_wp2
          go_roundg k1
          case measure => have := HQ.out; omega
          case rel => exact ⟨i + 1, by go_num, ⟨HI2.out⟩, ⟨by have := HQ.out; omega⟩, HNX⟩
        · obtain rfl : i = N1 := by have := HI.out; omega
          go_wp2_with fail
          go_ret
          exact ⟨rfl, _, HLI.out.done HN1.out HP.out HS.out HHB.out hbg HNE.out hnb.out HSN.out HCC.out hm8, HLI.out.bel, HLI.out.kep.mono (fun q hq => by rcases hq with h | h | h; exact .inl h; exact .inr (.inl h); exact .inr (.inr (by rw [h]; rfl))), rfl⟩
end Go.Proofs.Ytgpekomaoeockaa.MemC
