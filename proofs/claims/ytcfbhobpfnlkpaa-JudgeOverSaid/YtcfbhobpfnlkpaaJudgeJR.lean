/- The walk of typer.Check. -/
import Derived.Test.YtcfbhobpfnlkpaaJudgeJP
namespace Go.Proofs.Ytcfbhobpfnlkpaa.Flow
open Go.RowKit Go.Proofs.Ytcfbhobpfnlkpaa.QJudgeFound Go.Proofs.YtcfbhobpfnlkpaaW.PrintWords Go.Proofs.YtcfbhobpfnlkpaaW.PrintLast Go.Proofs.Ytcfbhobpfnlkpaa.Chain
set_option linter.unusedVariables false
set_option linter.unusedSimpArgs false
def unM (l : List (List Shp)) : List (List S44) := l.map (fun s => s.map unS)
theorem unM_len (l : List (List Shp)) : (unM l).length = l.length := by unfold unM; rw [List.length_map]
theorem mps_unM (l : List (List Shp)) : mps (unM l) = l := by
  unfold mps unM
  rw [List.map_map]
  conv => rhs; rw [← List.map_id l]
  refine List.map_congr_left (fun s _ => ?_)
  exact map_unS s
theorem unM_snoc (l : List (List Shp)) (s : List Shp) : unM l ++ [s.map unS] = unM (l ++ [s]) := by unfold unM; rw [List.map_append]; rfl
theorem chk_no {m : Im} {k j : Nat} {dn : List (List Shp)} {r : Option (List (List Shp))} (h : (checkV m (k + 1) j).map (dn ++ ·) = r) (ho : tyV m (j : Int) = none) : r = none := by
  unfold checkV at h
  rw [ho] at h
  exact h.symm
theorem chk_go {m : Im} {k j : Nat} {dn : List (List Shp)} {r : Option (List (List Shp))} {s : List Shp} (h : (checkV m (k + 1) j).map (dn ++ ·) = r) (ho : tyV m (j : Int) = some s) : (checkV m k (j + 1)).map ((dn ++ [s]) ++ ·) = r := by
  unfold checkV at h
  rw [ho] at h
  dsimp only at h
  rw [← h]
  cases checkV m k (j + 1) with
  | none => rfl
  | some l => simp
theorem chk_end {m : Im} {j : Nat} {dn : List (List Shp)} {r : Option (List (List Shp))} (h : (checkV m 0 j).map (dn ++ ·) = r) : r = some dn := by
  unfold checkV at h
  rw [← h]
  simp
theorem infoM : (Try.prog.info? 42).map (fun i => (i.zero, i.size, i.bytes)) = some (some (.slice none 0 0), 1, 24) := by kernel_rfl
theorem results_tmp4 {fn : Func} {t u v x : Tmp} (h : fn.results = #[.tmp t, .tmp u, .tmp v, .tmp x]) (tmps : Array Value) (P : Program) (w : World) : (results fn tmps).run P w = .ok (.tuple #[tmps.getD t undef, tmps.getD u undef, tmps.getD v undef, tmps.getD x undef]) w := by simp [results, h]
set_option maxHeartbeats 1000000 in
set_option maxRecDepth 100000 in
theorem clipM_c {w : World} {base : Nat} {ok : Nat → Prop} {v : Value} {x : List (List S44)} (h : Kd.N (Kd.slice 44 k44) 42 w base ok v x) : Calls Try.prog 17 #[v] w fun e w' => Below w.heap.size w w' ∧ ∃ A, e = .returned (.slice A x.length x.length) ∧ Kd.C (Kd.slice 44 k44) w' A x.length x := by
  obtain ⟨A, c, rfl, hle, hF⟩ := Kd.N_reads h
  have HF := Aside0.mk hF
  clear hF h
  go_enter Try.func17, Try.ntmps17
  go_wp2
  go_ret
  exact ⟨Below.refl _ _, _, rfl, HF.out⟩
theorem fk_row {w : World} {ok : Nat → Prop} {A : Option Addr} {s : List Shp} (h : Kd.F k44 w ok A s.length (s.map unS)) : Kd.FK (Kd.slice 44 k44) w ok (s.map unS) [.slice A s.length s.length] := by
  have e : (s.map unS).length = s.length := List.length_map _
  have h1 : Kd.F k44 w ok A (s.map unS).length (s.map unS) := by rw [e]; exact h
  have h2 := Kd.FK_slice_mk (e := 44) (c := s.length) (Nat.le_of_eq e) h1
  rw [e] at h2
  exact h2
set_option maxHeartbeats 16000000 in
set_option maxRecDepth 100000 in
theorem tcheck_c (a : IA) (m : Im) (w : World) (hm : IC w a m) (hq : saneB m = true) {r : Option (List (List Shp))} (hr : checkV m m.m.length 0 = r) :
    Calls Try.prog 9 #[.agg #[.slice a.A0 m.c.length a.c0, .slice a.A1 m.s.length a.c1, .slice a.A2 m.n.length a.c2, .slice a.A3 m.m.length a.c3, .slice a.A4 m.e.length a.c4, .int .i64 m.sk, .int .i64 m.hp]] w fun e w' => Below w.heap.size w w' ∧ (r = none → ∃ f pc, e = .returned (.tuple #[.slice none 0 0, .int .i64 f, .int .i64 pc, .int .i64 4])) ∧ ∀ s, r = some s → ∃ A, e = .returned (.tuple #[.slice A s.length s.length, .int .i64 0, .int .i64 0, .int .i64 0]) ∧ Kd.C (Kd.slice 44 k44) w' A s.length (unM s) := by
  obtain ⟨A0, A1, A2, A3, A4, c0, c1, c2, c3, c4⟩ := a
  have HM := Aside0.mk hm
  have HQ := Aside0.mk hq
  have HCV0 := Aside0.mk hr
  have HLM := Aside0.mk (saneP hq).fits.m12
  clear hm hq hr
  go_enter Try.func9, Try.ntmps9
  go_wp2_with fail
  refine see (F := fun w0_ => Below w.heap.size w w0_ ∧ w0_.heap.size = w.heap.size + 1 ∧ w0_.heap[w.heap.size]? = some (.cells #[.slice A0 m.c.length c0, .slice A1 m.s.length c1, .slice A2 m.n.length c2, .slice A3 m.m.length c3, .slice A4 m.e.length c4, .int .i64 m.sk, .int .i64 m.hp] 28 (0, 0))) _ ⟨bel, by simp, blk_new w _⟩ ?_
  rintro w1 ⟨hb1_, hsz1, HXB⟩
  replace hb1_ := Aside0.mk hb1_
  replace hsz1 := Aside0.mk hsz1
  replace HXB := Aside0.mk HXB
  have HMW := Aside0.mk (HM.out.below hb1_.out)
  go_loopg [2, 13] (m.m.length + 1) (fun kq v2 v13 w' => ∃ (j : Nat) (vm : Value) (dn : List (List Shp)), vm = v2 ∧ v13 = .int .i64 (j : Int) ∧ Aside0 (j ≤ m.m.length) ∧ Aside0 (j + kq = m.m.length + 1) ∧ Aside0 (dn.length = j) ∧ Aside0 ((checkV m (kq - 1) j).map (dn ++ ·) = r) ∧ Aside0 (Kd.N (Kd.slice 44 k44) 42 w' w1.heap.size (fun k => w1.heap.size ≤ k) vm (unM dn)) ∧ Aside0 (Below w1.heap.size w1 w'))
  case atStart => exact ⟨0, _, [], rfl, rfl, ⟨Nat.zero_le _⟩, ⟨by omega⟩, ⟨rfl⟩, ⟨by rw [show m.m.length + 1 - 1 = m.m.length from rfl, HCV0.out]; cases r <;> simp⟩, ⟨Kd.N_nil _ _ _ _ _⟩, ⟨Below.refl _ _⟩⟩
  case round =>
    obtain ⟨j, vm, dn, rfl, rfl, HK, HKQ, HDN, HCV, HNR, HLi_⟩ := hrel
    have HXi := Aside0.mk (blk_below HXB.out HLi_.out)
    cases gk with
    | zero => exact absurd HK.out (by have := HKQ.out; omega)
    | succ k2 =>
      by_cases hj : j < m.m.length
      · have hji : (j : Int) < (m.m.length : Int) := by omega
        have HJL := Aside0.mk hji
        have h12 := HLM.out
        have HMI := Aside0.mk (HMW.out.below HLi_.out)
        have hk2 : ∃ k3, k2 = k3 + 1 := ⟨k2 - 1, by have := HKQ.out; omega⟩
        obtain ⟨k3, rfl⟩ := hk2
        obtain ⟨o1, ho1⟩ : ∃ o1, tyV m (j : Int) = o1 := ⟨_, rfl⟩
        have HTO := Aside0.mk ho1
        have HN0 := Aside0.mk (fun h : o1 = none => chk_no HCV.out (ho1.trans h))
        have HNS := Aside0.mk (fun (s : List Shp) (h : o1 = some s) => chk_go HCV.out (ho1.trans h))
        clear ho1
        have i0 := (blk_cell HXi.out 0).trans rfl
        have i1 := (blk_cell HXi.out 1).trans rfl
        have i2 := (blk_cell HXi.out 2).trans rfl
        have i3 := (blk_cell HXi.out 3).trans rfl
        have i4 := (blk_cell HXi.out 4).trans rfl
        have i5 := (blk_cell HXi.out 5).trans rfl
        have i6 := (blk_cell HXi.out 6).trans rfl
        have hwl : w.heap.size < wr.heap.size := blk_lt HXi.out
        cases o1 with
        | none =>
          have HRE := Aside0.mk (HN0.out rfl)
          go_wp2_with (first | (go_at_call 16; (with_reducible refine (tmethod_c ⟨A0, A1, A2, A3, A4, c0, c1, c2, c3, c4⟩ m (j : Int) _ HMI.out HQ.out (Int.natCast_nonneg j) HJL.out HTO.out).mono ?_); rintro e w5 ⟨hB5, hno, hyes⟩; have HBB := Aside0.mk (HLi_.out.trans (hB5.mono HLi_.out.size)); obtain ⟨pc_, rfl⟩ := hno rfl; clear hno hyes))
          (try rw [Exit.noGoto_ret])
          refine bodyPost_ret (results_tmp4 rfl _ _ _) rfl ?_
          exact ⟨hb1_.out.trans (HBB.out.mono hb1_.out.size), fun _ => ⟨_, _, rfl⟩, fun s h => by rw [HRE.out] at h; cases h⟩
        | some s_ =>
          have HOK := Aside0.mk (show ∀ k, wr.heap.size ≤ k → w1.heap.size ≤ k ∧ some k ≠ vm.ownBlock from fun k hk => ⟨Nat.le_trans HLi_.out.size hk, fun e => by have := Kd.N_lt HNR.out k e.symm; omega⟩)
          have HLE := Aside0.mk (show ((unM dn).length + 1) * 24 ≤ 140737488355328 by rw [unM_len, HDN.out]; have := HLM.out; omega)
          go_wp2_with (first | (go_at_call 16; (with_reducible refine (tmethod_c ⟨A0, A1, A2, A3, A4, c0, c1, c2, c3, c4⟩ m (j : Int) _ HMI.out HQ.out (Int.natCast_nonneg j) HJL.out HTO.out).mono ?_); rintro e w5 ⟨hB5, hno, hyes⟩; have HBB := Aside0.mk (HLi_.out.trans (hB5.mono HLi_.out.size)); obtain ⟨A5, rfl, hF5⟩ := hyes _ rfl; have HFK := Aside0.mk (fk_row hF5); have HO5 := Aside0.mk (Kd.N_below HNR.out hB5); clear hF5; clear hno hyes) | ((with_reducible refine gate_builtin (b := .append) (xs := #[.tmp 28, .tmp 30]) rfl ?_); at_builtin; refine Kd.N_append (Kd.slice 44 k44) (w0 := w1) w1.heap.size rfl (.tmp 28) (.tmp 30) 29 42 (.slice none 0 0) 24 rfl Try.underlying29 infoM rfl (by decide) (by decide) vm (unM dn) (s_.map unS) [.slice A5 s_.length s_.length] (fun k => w1.heap.size ≤ k) (fun k => wr.heap.size ≤ k) rfl rfl HFK.out HOK.out (fun k hk => Nat.le_trans HBB.out.size hk) HO5.out HBB.out HBB.out.size HLE.out ?_; intro v6 w6 ho6 hb6 hg6 hat6; clear hg6 hat6; have HO6 := Aside0.mk ho6; have HB6 := Aside0.mk hb6; clear ho6 hb6))
          go_roundg (k3 + 1)
          case measure => omega
          case rel => exact ⟨j + 1, v6, dn ++ [s_], rfl, by go_num, ⟨by omega⟩, ⟨by have := HKQ.out; omega⟩, ⟨by rw [List.length_append, HDN.out]; rfl⟩, ⟨HNS.out _ rfl⟩, ⟨by have h := HO6.out; rw [unM_snoc] at h; exact h⟩, HB6⟩
      · have hje : j = m.m.length := by have := HK.out; omega
        have hk2 : k2 = 0 := by have := HKQ.out; omega
        subst hk2
        have HRE := Aside0.mk (chk_end HCV.out)
        have hji : ¬ ((j : Int) < (m.m.length : Int)) := by omega
        clear hj hje
        go_wp2_with (first | (go_at_call 17; (with_reducible refine (clipM_c HNR.out).mono ?_); rintro e w5 ⟨hB5, A5, rfl, hC5⟩; have HC5 := Aside0.mk hC5; have HBB := Aside0.mk (HLi_.out.trans (hB5.mono HLi_.out.size)); clear hC5))
        (try rw [Exit.noGoto_ret])
        refine bodyPost_ret (results_tmp4 rfl _ _ _) rfl ?_
        refine ⟨hb1_.out.trans (HBB.out.mono hb1_.out.size), (fun h => by rw [HRE.out] at h; cases h), fun s h => ?_⟩
        rw [HRE.out] at h
        injection h with h
        subst h
        have hC := HC5.out
        rw [unM_len] at hC
        exact ⟨A5, by show Ending.returned (.tuple #[.slice A5 (unM dn).length (unM dn).length, .int .i64 0, .int .i64 0, .int .i64 0]) = _; rw [unM_len], hC⟩
end Go.Proofs.Ytcfbhobpfnlkpaa.Flow
