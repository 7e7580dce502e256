/- The law LinAdds, walked whole: it returns true. -/
import Derived.Test.YthfkajolockcgaaAddsAV
namespace Go.Proofs.Ythfkajolockcgaa.Adds
open Go.RowKit Go.Proofs.Ythfkajolockcgaa.QLinAdds Go.Proofs.YthfkajolockcgaaW.PrintWords Go.Proofs.YthfkajolockcgaaW.PrintLast Go.Proofs.YthfkajolockcgaaW.PrintMore Go.Proofs.Ythfkajolockcgaa.Open Go.Proofs.Ythfkajolockcgaa.Lin
set_option linter.unusedVariables false
theorem adds_start {w w1 : World} {A2 : Option Addr} {n c2 : Nat} {mm : Int} (h : w1.heap[w.heap.size]? = some (.cells #[.slice A2 n c2, .int .i64 mm] 27 (0, 0))) (hb : Below w.heap.size w w1) :
    AW w ((w1.alloc (.cells #[] 3)).alloc (.cells #[] 3)) w.heap.size A2 n c2 mm (.slice (some ⟨w1.heap.size, 0, none⟩) 0 0) (.slice (some ⟨w1.heap.size + 1, 0, none⟩) 0 0) [] [] := by
  have e : (w1.alloc (.cells #[] 3)).heap.size = w1.heap.size + 1 := by simp
  refine ⟨blk_alloc (blk_alloc h _) _, Nat.le_refl _, own_alloc (own_lit w1 w.heap.size 3 .i64 [] hb.size (by decide)) _, ?_, ?_, below_alloc (below_alloc hb _) _⟩
  · have h2 := own_lit (w1.alloc (.cells #[] 3)) w.heap.size 3 .i64 [] (by rw [e]; have := hb.size; omega) (by decide)
    rw [e] at h2
    exact h2
  · intro k e1 e2
    simp [Value.ownBlock] at e1 e2
    omega
set_option maxHeartbeats 16000000 in
set_option maxRecDepth 100000 in
theorem LinAdds.walk (A0 : Option Addr) (c0 : Nat) (l0 : List S27) (A1 : Option Addr) (c1 : Nat) (ti : List Int) (A2 : Option Addr) (c2 : Nat) (mc : List Int) (mm : Int) (w : World) (hr0 : Kd.C k27 w A0 l0.length l0) (hc0 : l0.length ≤ c0) (hr1 : Kd.C (Kd.int .u8) w A1 ti.length ti) (hr2 : Kd.C (Kd.int .i64) w A2 mc.length mc) (hc2 : mc.length ≤ c2)
    (hti : ∀ t ∈ ti, 0 ≤ t ∧ t ≤ 255) (hmm : -9223372036854775808 ≤ mm ∧ mm ≤ 9223372036854775807) (hln : ti.length ≤ 140737488351232) (hln2 : mc.length ≤ 140737488351232) (hln3 : ∀ r ∈ l0, r.f0.length ≤ 140737488351232) :
    Calls Try.prog 7 #[.slice A0 l0.length c0, .slice A1 ti.length c1, .agg #[.slice A2 mc.length c2, .int .i64 mm]] w fun e w' => e = .returned (.bool true) ∧ Below w.heap.size w w' := by
  have HAW := Aside0.mk (fun w => plimsolllaw14_awake.calls 40 true w (awake_ok 40 (Nat.le_refl _)))
  have HR0 := Aside0.mk hr0
  have HR1 := Aside0.mk hr1
  have HR2 := Aside0.mk hr2
  have HTI := Aside0.mk hti
  have HMM := Aside0.mk hmm
  have HC0 := Aside0.mk hc0
  have HC2 := Aside0.mk hc2
  have HL3 := Aside0.mk hln3
  obtain ⟨b, hb, hb2⟩ := few_val l0
  have HF := Aside0.mk (hb 100 (Nat.le_refl _))
  have HX := Aside0.mk (show (w.alloc (.cells #[.slice A2 mc.length c2, .int .i64 mm] 27)).heap[w.heap.size]? = some (.cells #[.slice A2 mc.length c2, .int .i64 mm] 27 (0, 0)) from heap_alloc_new w _)
  have HXB := Aside0.mk (below_alloc (Below.refl w.heap.size w) (.cells #[.slice A2 mc.length c2, .int .i64 mm] 27 (0, 0)))
  have hcs : Aside0 ((b = true ∧ decide (10 < (l0.length : Int)) = false ∧ decide (ti.length < l0.length) = false ∧ l0.length ≤ 10 ∧ l0.length ≤ ti.length) ∨ (b = true ∧ decide (10 < (l0.length : Int)) = false ∧ decide (ti.length < l0.length) = true) ∨ (b = true ∧ decide (10 < (l0.length : Int)) = true) ∨ b = false) := ⟨by
    cases b
    · exact .inr (.inr (.inr rfl))
    · by_cases h1 : 10 < (l0.length : Int)
      · exact .inr (.inr (.inl ⟨rfl, decide_eq_true h1⟩))
      · by_cases h2 : ti.length < l0.length
        · exact .inr (.inl ⟨rfl, decide_eq_false h1, decide_eq_true h2⟩)
        · exact .inl ⟨rfl, decide_eq_false h1, decide_eq_false h2, by omega, by omega⟩⟩
  clear hr0 hr1 hr2 hti hmm hc0 hc2 hln3 hb hb2
  rcases hcs.out with ⟨rfl, d1, d2, d3, d4⟩ | hrest
  · clear hcs
    go_enter Try.func7, Try.ntmps7
    go_wp2_with fail
    refine (plimsolllaw14_few.calls 100 A0 c0 l0 true _ (Kd.C_below HR0.out HXB.out) HC0.out HF.out).mono ?_
    rintro e w1 ⟨rfl, ⟨nd, rfl⟩⟩
    try refine ⟨_, rfl, ?_⟩
    have HX1 := Aside0.mk (show ((w.alloc (.cells #[.slice A2 mc.length c2, .int .i64 mm] 27)).drewN nd).heap[w.heap.size]? = _ from HX.out)
    have HB1 := Aside0.mk (show Below w.heap.size w ((w.alloc (.cells #[.slice A2 mc.length c2, .int .i64 mm] 27)).drewN nd) from pw_below_drewN HXB.out nd)
    clear HX HXB
    generalize (w.alloc (Obj.cells #[Value.slice A2 mc.length c2, Value.int IntKind.i64 mm] 27)).drewN nd = w1 at *
    go_wp2_with fail
    have HA := Aside0.mk (adds_start HX1.out HB1.out)
    refine LinAdds.loop A0 c0 l0 A1 c1 ti A2 c2 mc.length mm w w.heap.size _ HR0.out HR1.out HTI.out hln hln2 d3 d4 _ _ _ _ _ _ _ _ _ _ _ _ _ _ _ _ _ _ _ _ _ _ _ _ _ _ _ _ _ _ _ _ _ _ _ _ _ _ _ _ _ _ _ _ _ _ _ _ _ _ _ _ _ _ _ _ _ _ _ _ _ _ _ _ _ _ _ _ _ _ _ _ _ _ _ _ _ _ _ _ _ _ _ _ _ _ _ _ _ _ _ _ _ _ _ _ _ _ _ _ _ _ _ _ _ _ _ _ _ _ _ _ _ _ _ _ _ _ _ _ _ _ _ _ _ _ _ _ _ _ _ _ _ _ _ _ _ _ _ _ _ _ _ _ _ _ _ _ (fun _ _ _ _ _ _ _ _ _ _ _ _ _ _ _ _ _ _ _ _ _ _ _ _ _ _ _ _ _ _ _ _ _ _ _ _ _ _ _ _ _ _ _ _ _ _ _ _ _ _ _ _ _ _ _ _ _ _ _ _ _ _ _ _ _ _ _ _ _ _ _ _ _ _ _ _ _ _ _ _ _ _ _ _ vt' vu' w8 hp hA => ?_) _ _ _ _ _ _ _ _ _ _ _ _ _ _ _ _ _ _ _ _ _ _ _ _ _ _ _ _ _ _ _ _ _ _ _ _ _ _ _ _ _ _ _ _ _ _ _ _ _ _ _ _ _ _ _ _ _ _ _ _ _ _ _ _ _ _ _ _ _ _ _ _ _ _ _ _ _ _ _ _ _ _ _ _ _ _ 0 rfl HA.out
    apply_assumption
    by_cases hn : mc.length ≤ 50
    · obtain ⟨X, M, hXl, hXb, hMb, s1, s2, p1, p2⟩ := adds_sums l0 ti mc.length d3 d4 HTI.out hp hn
      have htl : (ti.take l0.length).length = l0.length := by rw [List.length_take]; omega
      have hul : (twice (ti.take l0.length)).length = l0.length := by rw [twice_len]; exact htl
      revert hA s1 s2 p1 p2 htl hul
      generalize twice (ti.take l0.length) = us
      generalize ti.take l0.length = ts
      intro hA s1 s2 p1 p2 htl hul
      obtain ⟨At, ct, hvt, hCt, hct⟩ := own_blk hA.ot
      subst hvt
      obtain ⟨Au, cu, hvu, hCu, hcu⟩ := own_blk hA.ou
      subst hvu
      exact LinAdds.tail A0 c0 l0 A1 c1 _ A2 c2 mc mm w w8 w.heap.size HR0.out HC0.out HR2.out HC2.out d3 (by omega) ts us X M htl hul hXl hXb hMb s1 s2 p1 (p2 mc mm rfl) At Au ct cu hCt hct hCu hcu _ _ _ _ _ _ _ _ _ _ _ _ _ _ _ _ _ _ _ _ _ _ _ _ _ _ _ _ _ _ _ _ _ _ _ _ _ _ _ _ _ _ _ _ _ _ _ _ _ _ _ _ _ _ _ _ _ _ _ _ _ _ _ _ _ _ _ _ _ _ _ _ _ _ _ _ _ _ _ _ _ _ _ _ _ _ _ _ _ _ _ _ _ _ _ _ _ _ _ _ _ _ _ _ _ _ _ _ _ _ _ _ _ _ _ _ _ _ _ _ _ _ _ _ _ _ _ _ _ _ _ _ _ _ _ _ _ _ _ _ _ _ _ _ _ _ _ _ _ _ _ _ _ _ _ _ _ _ _ _ _ _ _ _ _ _ _ _ _ _ _ _ _ _ _ _ _ _ _ _ _ _ _ _ _ _ _ _ _ _ _ _ _ _ _ _ _ _ _ _ _ _ _ _ _ _ _ _ _ _ _ _ _ _ _ _ _ _ _ _ _ _ _ _ _ _ _ _ _ _ _ _ hA
    · have d5 : decide (50 < (mc.length : Int)) = true := decide_eq_true (by omega)
      have hm0 := (blk_cell hA.bx 0).trans rfl
      have HL := Aside0.mk hA
      clear hp hA hn
      go_wp2_with fail
      refine (HAW.out _).mono ?_
      rintro e w3 ⟨rfl, hb3⟩
      have HB3 := Aside0.mk (HL.out.below hb3).bel
      clear hb3
      go_wp2
      go_ret
      exact ⟨rfl, HB3.out⟩
  · rcases hrest with ⟨rfl, d1, d2⟩ | ⟨rfl, d1⟩ | rfl
    all_goals
      clear hcs
      go_enter Try.func7, Try.ntmps7
      go_wp2_with fail
      refine (plimsolllaw14_few.calls 100 A0 c0 l0 _ _ (Kd.C_below HR0.out HXB.out) HC0.out HF.out).mono ?_
      rintro e w1 ⟨rfl, ⟨nd, rfl⟩⟩
      try refine ⟨_, rfl, ?_⟩
      have HB1 := Aside0.mk (show Below w.heap.size w ((w.alloc (.cells #[.slice A2 mc.length c2, .int .i64 mm] 27)).drewN nd) from pw_below_drewN HXB.out nd)
      clear HX HXB
      generalize (w.alloc (Obj.cells #[Value.slice A2 mc.length c2, Value.int IntKind.i64 mm] 27)).drewN nd = w1 at *
      go_wp2_with fail
      refine (HAW.out _).mono ?_
      rintro e w3 ⟨rfl, hb3⟩
      have HB3 := Aside0.mk (HB1.out.trans (hb3.mono HB1.out.size))
      clear hb3
      go_wp2
      go_ret
      exact ⟨rfl, HB3.out⟩
end Go.Proofs.Ythfkajolockcgaa.Adds
