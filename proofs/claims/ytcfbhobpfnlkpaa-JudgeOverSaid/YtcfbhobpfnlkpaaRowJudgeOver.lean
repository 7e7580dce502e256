/- The row of the law JudgeOver: whatever the input, it returns true, and each argument reads behind the call as it read before; no condition. Written by a program of ours (tools/rowgen.py). -/
import Derived.Test.YtcfbhobpfnlkpaaRows
import Derived.Test.YtcfbhobpfnlkpaaRdJudgeOver
import Derived.Test.YtcfbhobpfnlkpaaPureJudgeOver
import Derived.WalkKit
import Derived.ProofKit
import Derived.OpenShut
import Derived.ShutString
import Derived.ChangeOld
import Derived.Below
import Derived.SizedLaws
namespace Go.Proofs.Ytcfbhobpfnlkpaa.judgeOver
open Go.ChangeShapes Go.WideShapes Go.ChangeAt Go.RowKit Go.Proofs.Ytcfbhobpfnlkpaa.Open Go.Proofs.Ytcfbhobpfnlkpaa.RdJudgeOver Go.Proofs.Ytcfbhobpfnlkpaa.QJudgeFound
open Go.Proofs.YtcfbhobpfnlkpaaW.PrintWords (Kd)
theorem own : ownKnob Try.prog.godebug = none := by kernel_rfl
theorem laidOut : laidOutB Try.prog = true := by kernel_rfl
set_option maxRecDepth 100000 in
theorem lifted (os : Os) (started : os.Started) (H : Type) (enc : TypeId × Value → H) :
    ReturnsInHanded {} Try.checked os 5 .any (Rows.judgeOverSpec.pre6 enc Try.prog Try.f5 Rows.judgeOverRow.domain false) (Rows.judgeOverSpec.post enc Try.prog Try.f5 false true false false) := by
  refine returnsInHanded_of_change_sized (C := Try.checked) own started (by kernel_rfl) Try.func5
    (ChangeSpec.witness6 (enc := enc) (C := Try.checked) false ⟨#[], #[.agg #[.slice none 0 0, .slice none 0 0, .slice none 0 0, .slice none 0 0, .slice none 0 0, .int .i64 0, .int .i64 0], .slice none 0 0, .slice none 0 0, .slice none 0 0], []⟩ 8 (by kernel_rfl) (by kernel_rfl) (by kernel_rfl) (by kernel_rfl)) ?_
  intro W base args ds gs before hval0 hW hcnd hsz0 _
  have hsz : (DataW.weightsEach Try.prog (Try.f5.params.toList ++ Rows.judgeOverSpec.plain.varTypes Try.prog) (ds ++ gs)).all (· ≤ reachBytes) = true := hsz0
  have hval : ∀ (j : Nat) t v, Try.f5.params[j]? = some t → args[j]? = some v → Value.okWide Try.prog W .any base t v := hval0
  have hW' := hW
  obtain ⟨p, q, hA0, hV, rfl, hfz, hnd⟩ := hW
  have hA : DataW.TrodAll enc Try.prog W 0 (fun _ => true) true Try.f5.params.toList args.toList ds p := hA0
  rw [Try.params5] at hA hval hsz
  obtain ⟨v0, vs0, d0, ds0, p0, q0, hargs, rfl, rfl, h0, r900⟩ := trodAll_cons hA
  obtain ⟨v1, vs1, d1, ds1, p1, q1, rfl, rfl, rfl, h1, r901⟩ := trodAll_cons r900
  obtain ⟨v2, vs2, d2, ds2, p2, q2, rfl, rfl, rfl, h2, r902⟩ := trodAll_cons r901
  obtain ⟨v3, vs3, d3, ds3, p3, q3, rfl, rfl, rfl, h3, r903⟩ := trodAll_cons r902
  obtain ⟨rfl, rfl, rfl⟩ := trodAll_nil r903
  obtain rfl : args = #[v0, v1, v2, v3] := by cases args; simp_all
  obtain ⟨rfl, rfl⟩ := trodVars_none hV
  have k0 := h0
  have lt0 : ∀ x ∈ p0, x.block < W.heap.size := by obtain ⟨m, hm⟩ := k0; exact DataW.trod_lt m _ _ _ hm
  obtain ⟨y0, cs0, rfl, hK0, w0⟩ := arg_struct Try.underlying28 r28 (each_weight hsz 0 28 _ rfl rfl) (hval 0 28 v0 rfl rfl) h0
  obtain ⟨_, _, rfl, ⟨A0_0, c0_0, rfl, hc0_0, hr0_0⟩, ⟨_, _, rfl, ⟨A0_1, c0_1, rfl, hc0_1, hr0_1⟩, ⟨_, _, rfl, ⟨A0_2, c0_2, rfl, hc0_2, hr0_2⟩, ⟨_, _, rfl, ⟨A0_3, c0_3, rfl, hc0_3, hr0_3⟩, ⟨_, _, rfl, ⟨A0_4, c0_4, rfl, hc0_4, hr0_4⟩, ⟨_, _, rfl, rfl, rfl⟩⟩⟩⟩⟩⟩ := hK0
  obtain ⟨w0_0, w0_1, w0_2, w0_3, w0_4, w0_5, w0_6⟩ := w0
  have k1 := h1
  have lt1 : ∀ x ∈ p1, x.block < W.heap.size := by obtain ⟨m, hm⟩ := k1; exact DataW.trod_lt m _ _ _ hm
  obtain ⟨A1, l1, c1, rfl, hc1, hr1, w1⟩ := arg_slice Try.underlying29 r29 (each_weight hsz 1 29 _ rfl rfl) (hval 1 29 v1 rfl rfl) h1
  have k2 := h2
  have lt2 : ∀ x ∈ p2, x.block < W.heap.size := by obtain ⟨m, hm⟩ := k2; exact DataW.trod_lt m _ _ _ hm
  obtain ⟨A2, l2, c2, rfl, hc2, hr2, w2⟩ := arg_slice Try.underlying29 r29 (each_weight hsz 2 29 _ rfl rfl) (hval 2 29 v2 rfl rfl) h2
  have k3 := h3
  have lt3 : ∀ x ∈ p3, x.block < W.heap.size := by obtain ⟨m, hm⟩ := k3; exact DataW.trod_lt m _ _ _ hm
  obtain ⟨A3, l3, c3, rfl, hc3, hr3, w3⟩ := arg_slice Try.underlying29 r29 (each_weight hsz 3 29 _ rfl rfl) (hval 3 29 v3 rfl rfl) h3
  clear hA0 hval0 hsz0 hsz
  have h := Pure.JudgeOver (y0.1) (y0.2.1) (y0.2.2.1) (y0.2.2.2.1) (y0.2.2.2.2.1) (y0.2.2.2.2.2.1) (y0.2.2.2.2.2.2) l1 l2 l3 w0_0 w0_1 w0_2 w0_3 w0_4 w0_5 w0_6 w1 w2 w3
  refine (plimsolllaw10_JudgeOver.calls A0_0 c0_0 (y0.1) A0_1 c0_1 (y0.2.1) A0_2 c0_2 (y0.2.2.1) A0_3 c0_3 (y0.2.2.2.1) A0_4 c0_4 (y0.2.2.2.2.1) (y0.2.2.2.2.2.1) (y0.2.2.2.2.2.2) A1 c1 l1 A2 c2 l2 A3 c3 l3 W hr0_0 hc0_0 hr0_1 hc0_1 hr0_2 hc0_2 hr0_3 hc0_3 hr0_4 hc0_4 hr1 hc1 hr2 hc2 hr3 hc3 true h).mono fun e W' ⟨he, bel0⟩ => ?_
  have bel : Below W.heap.size W W' := bel0
  subst he
  exact ⟨_, rfl, _, _, _, [], _, [], hW', trodAll_mk1 (shut_bool Try.underlying4 _), (trodAll_cons_mk (Below.trod laidOut (by kernel_rfl) (of_decide_eq_true (by kernel_rfl)) k0 bel lt0) (trodAll_cons_mk (Below.trod laidOut (by kernel_rfl) (of_decide_eq_true (by kernel_rfl)) k1 bel lt1) (trodAll_cons_mk (Below.trod laidOut (by kernel_rfl) (of_decide_eq_true (by kernel_rfl)) k2 bel lt2) (trodAll_cons_mk (Below.trod laidOut (by kernel_rfl) (of_decide_eq_true (by kernel_rfl)) k3 bel lt3) trodAll_mk0)))), rfl, bel.frame _, fun h => by cases h⟩
theorem over : Rows.judgeOverRow.holds Try.pinned (OpenSpec.ofChange Rows.judgeOverSpec) :=
  OpenClaim.holds_of_wide 5 Try.f5 rfl rfl rfl rfl rfl rfl rfl ⟨rfl, rfl, rfl, rfl, rfl⟩ rfl rfl rfl rfl rfl (by kernel_rfl) Try.func5 (by kernel_rfl)
    (of_decide_eq_true (by kernel_rfl)) (by unfold Func.isWrapper; first | (rw [if_pos (by decide +kernel)]; kernel_rfl) | (rw [if_neg (by decide +kernel)]; exact ⟨rfl, rfl⟩))
    (fun os started H enc _ => lifted os started H enc)
theorem proved : Rows.JudgeOverSaid := over
#print axioms proved
end Go.Proofs.Ytcfbhobpfnlkpaa.judgeOver
namespace Go.Proofs.Ytcfbhobpfnlkpaa
theorem judgeOver_holds : Rows.JudgeOverSaid := judgeOver.proved
end Go.Proofs.Ytcfbhobpfnlkpaa
