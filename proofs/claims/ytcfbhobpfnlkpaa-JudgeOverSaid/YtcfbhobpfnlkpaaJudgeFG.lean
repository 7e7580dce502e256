/- The walk: small functions of rows. -/
import Derived.Test.YtcfbhobpfnlkpaaJudgeFF
namespace Go.Proofs.Ytcfbhobpfnlkpaa.Flow
open Go.RowKit Go.Proofs.Ytcfbhobpfnlkpaa.QJudgeFound Go.Proofs.YtcfbhobpfnlkpaaW.PrintWords Go.Proofs.YtcfbhobpfnlkpaaW.PrintLast Go.Proofs.Ytcfbhobpfnlkpaa.Chain
set_option linter.unusedVariables false
set_option linter.unusedSimpArgs false
theorem sane_c {w : World} {a : IA} {m : Im} (hm : IC w a m) {n : Int} (hb : saneE m = n) : Calls Try.prog 14 #[.agg #[.slice a.A0 m.c.length a.c0, .slice a.A1 m.s.length a.c1, .slice a.A2 m.n.length a.c2, .slice a.A3 m.m.length a.c3, .slice a.A4 m.e.length a.c4, .int .i64 m.sk, .int .i64 m.hp]] w fun e w' => e = .returned (.int .i64 n) ∧ Below w.heap.size w w' := by
  subst hb
  exact sane_calls a m w hm
def saneB (m : Im) : Bool := decide (saneE m = 0)
theorem saneE_fits {m : Im} (h : saneE m = 0) : fitsB m = true := by
  unfold saneE at h
  cases hf : fitsB m
  · rw [hf] at h; simp at h
  · rfl
theorem saneE_ok {m : Im} (h : saneE m = 0) : okB m = true := by
  have hf := saneE_fits h
  unfold saneE at h
  rw [hf] at h
  cases ho : okB m
  · rw [ho] at h; simp at h
  · rfl
set_option maxHeartbeats 4000000 in
set_option maxRecDepth 100000 in
theorem law_sane (a : IA) (m : Im) (w : World) (hm : IC w a m) : Calls Try.prog 6 #[.agg #[.slice a.A0 m.c.length a.c0, .slice a.A1 m.s.length a.c1, .slice a.A2 m.n.length a.c2, .slice a.A3 m.m.length a.c3, .slice a.A4 m.e.length a.c4, .int .i64 m.sk, .int .i64 m.hp]] w fun e w' => e = .returned (.bool (saneB m)) ∧ Below w.heap.size w w' := by
  have HM := Aside0.mk hm
  clear hm
  by_cases h1 : m.m.length ≤ 12
  case neg =>
    have HZ := Aside0.mk (show saneB m = false from decide_eq_false (fun h => h1 (fitsP (saneE_fits h)).m12))
    have d1 : decide ((m.m.length : Int) ≤ 12) = false := decide_eq_false (by omega)
    clear h1
    go_enter Try.func6, Try.ntmps6
    go_wp2_with fail
    go_ret
    exact ⟨ret_b HZ.out.symm, bel⟩
  have d1 : decide ((m.m.length : Int) ≤ 12) = true := decide_eq_true (by omega)
  by_cases h2 : m.c.length ≤ 8
  case neg =>
    have HZ := Aside0.mk (show saneB m = false from decide_eq_false (fun h => h2 (fitsP (saneE_fits h)).c8))
    have d2 : decide ((m.c.length : Int) ≤ 8) = false := decide_eq_false (by omega)
    clear h1 h2
    go_enter Try.func6, Try.ntmps6
    go_wp2_with fail
    go_ret
    exact ⟨ret_b HZ.out.symm, bel⟩
  have d2 : decide ((m.c.length : Int) ≤ 8) = true := decide_eq_true (by omega)
  by_cases h3 : m.n.length ≤ 16
  case neg =>
    have HZ := Aside0.mk (show saneB m = false from decide_eq_false (fun h => h3 (fitsP (saneE_fits h)).n16))
    have d3 : decide ((m.n.length : Int) ≤ 16) = false := decide_eq_false (by omega)
    clear h1 h2 h3
    go_enter Try.func6, Try.ntmps6
    go_wp2_with fail
    go_ret
    exact ⟨ret_b HZ.out.symm, bel⟩
  have d3 : decide ((m.n.length : Int) ≤ 16) = true := decide_eq_true (by omega)
  obtain ⟨n, hn⟩ : ∃ n, saneE m = n := ⟨_, rfl⟩
  have HN := Aside0.mk hn
  have HZ := Aside0.mk (show saneB m = (n == 0) from by unfold saneB; rw [hn]; rfl)
  clear h1 h2 h3 hn
  go_enter Try.func6, Try.ntmps6
  go_wp2_with (first | (go_at_call 14; (refine (sane_c (HM.out.below bel) HN.out).mono ?_); rintro e w1 ⟨rfl, hb1⟩; have HB1 : Below w.heap.size w w1 := below_mid bel hb1; clear hb1))
  go_ret
  exact ⟨ret_b (by rw [HZ.out]), bel⟩
structure SaneP (m : Im) : Prop where
  fits : FitsP m
  cls : ∀ j, j < m.c.length → classB m (j : Int) = true
  met : ∀ x ∈ m.m, methodB m x = true
theorem saneP {m : Im} (h : saneB m = true) : SaneP m := by
  have h := of_decide_eq_true h
  have ho := saneE_ok h
  unfold okB at ho
  simp only [Bool.and_eq_true, List.all_eq_true, List.mem_range] at ho
  exact ⟨fitsP (saneE_fits h), ho.2.1, ho.2.2.1⟩
structure MetP (m : Im) (x : S52) : Prop where
  a4 : x.f0.length ≤ 4
  l8 : x.f0.length + x.f1.length ≤ 8
  c64 : x.f3.length ≤ 64
  c0 : x.f3.length ≠ 0
  ph : x.f6.length = x.f3.length
  ag : ∀ t ∈ x.f0, goodT m.c.length t = true
  lg : ∀ t ∈ x.f1, goodT m.c.length t = true
  rg : (x.f2.f0 = 5 ∧ x.f2.f1 = 0) ∨ goodT m.c.length x.f2 = true
  nm : ∀ i ∈ x.f3, namedB m x i.f0 i.f1 i.f2 = true
  ib : ∀ i ∈ x.f3, 0 ≤ i.f1 ∧ i.f1 ≤ 255 ∧ 0 ≤ i.f2 ∧ i.f2 ≤ 255 ∧ 1 ≤ i.f0 ∧ i.f0 ≤ 34
theorem SaneP.metP {m : Im} (h : SaneP m) {x : S52} (hx : x ∈ m.m) : MetP m x := by
  have h1 := h.met x hx
  have h2 := h.fits.me x hx
  unfold methodB at h1
  simp only [Bool.and_eq_true, Bool.or_eq_true, decide_eq_true_eq, List.all_eq_true] at h1
  obtain ⟨g1, g2, g3, g4, g5, g6, g7⟩ := h1
  exact ⟨h2.1, g6, h2.2.2.1, g4, g5, g1, g2, g3, g7, h2.2.2.2.2⟩
end Go.Proofs.Ytcfbhobpfnlkpaa.Flow
