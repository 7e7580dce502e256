/- The row of the law LinAdds: whatever the input, it returns true, and each argument reads behind the call as it read before; no condition. Written by a program of ours (wip/lin/adds/lay.py). -/
import Derived.Test.YthfkajolockcgaaRows
import Derived.Test.YthfkajolockcgaaRdLinAdds
import Derived.Test.YthfkajolockcgaaAddsAX3
import Derived.WalkKit
import Derived.ProofKit
import Derived.OpenShut
import Derived.ShutString
import Derived.ChangeOld
import Derived.Below
import Derived.SizedLaws
namespace Go.Proofs.Ythfkajolockcgaa.linAdds
open Go.ChangeShapes Go.WideShapes Go.ChangeAt Go.RowKit Go.Proofs.Ythfkajolockcgaa.Open Go.Proofs.Ythfkajolockcgaa.RdLinAdds Go.Proofs.Ythfkajolockcgaa.QLinAdds
open Go.Proofs.YthfkajolockcgaaW.PrintWords (Kd)
theorem own : ownKnob Try.prog.godebug = none := by kernel_rfl
theorem laidOut : laidOutB Try.prog = true := by kernel_rfl
set_option maxRecDepth 100000 in
theorem lifted (os : Os) (started : os.Started) (H : Type) (enc : TypeId × Value → H) :
    ReturnsInHanded {} Try.checked os 7 .any (Rows.linAddsSpec.pre6 enc Try.prog Try.f7 Rows.linAddsRow.domain false) (Rows.linAddsSpec.post enc Try.prog Try.f7 false true false false) := by
  refine returnsInHanded_of_change_sized (C := Try.checked) own started (by kernel_rfl) Try.func7
    (ChangeSpec.witness6 (enc := enc) (C := Try.checked) false ⟨#[], #[.slice none 0 0, .slice none 0 0, .agg #[.slice none 0 0, .int .i64 0]], []⟩ 8 (by kernel_rfl) (by kernel_rfl) (by kernel_rfl) (by kernel_rfl)) ?_
  intro W base args ds gs before hval0 hW hcnd hsz0 _
  have hsz : (DataW.weightsEach Try.prog (Try.f7.params.toList ++ Rows.linAddsSpec.plain.varTypes Try.prog) (ds ++ gs)).all (· ≤ reachBytes) = true := hsz0
  have hval : ∀ (j : Nat) t v, Try.f7.params[j]? = some t → args[j]? = some v → Value.okWide Try.prog W .any base t v := hval0
  have hW' := hW
  obtain ⟨p, q, hA0, hV, rfl, hfz, hnd⟩ := hW
  have hA : DataW.TrodAll enc Try.prog W 0 (fun _ => true) true Try.f7.params.toList args.toList ds p := hA0
  rw [Try.params7] at hA hval hsz
  obtain ⟨v0, vs0, d0, ds0, p0, q0, hargs, rfl, rfl, h0, r900⟩ := trodAll_cons hA
  obtain ⟨v1, vs1, d1, ds1, p1, q1, rfl, rfl, rfl, h1, r901⟩ := trodAll_cons r900
  obtain ⟨v2, vs2, d2, ds2, p2, q2, rfl, rfl, rfl, h2, r902⟩ := trodAll_cons r901
  obtain ⟨rfl, rfl, rfl⟩ := trodAll_nil r902
  obtain rfl : args = #[v0, v1, v2] := by cases args; simp_all
  obtain ⟨rfl, rfl⟩ := trodVars_none hV
  have k0 := h0
  have lt0 : ∀ x ∈ p0, x.block < W.heap.size := by obtain ⟨m, hm⟩ := k0; exact DataW.trod_lt m _ _ _ hm
  obtain ⟨A0, l0, c0, rfl, hc0, hr0, w0⟩ := arg_slice Try.underlying22 r22 (each_weight hsz 0 22 _ rfl rfl) (hval 0 22 v0 rfl rfl) h0
  have k1 := h1
  have lt1 : ∀ x ∈ p1, x.block < W.heap.size := by obtain ⟨m, hm⟩ := k1; exact DataW.trod_lt m _ _ _ hm
  obtain ⟨A1, l1, c1, rfl, hc1, hr1, w1⟩ := arg_slice Try.underlying41 r41 (each_weight hsz 1 41 _ rfl rfl) (hval 1 41 v1 rfl rfl) h1
  have k2 := h2
  have lt2 : ∀ x ∈ p2, x.block < W.heap.size := by obtain ⟨m, hm⟩ := k2; exact DataW.trod_lt m _ _ _ hm
  obtain ⟨y2, cs2, rfl, hK2, w2⟩ := arg_struct Try.underlying27 r27 (each_weight hsz 2 27 _ rfl rfl) (hval 2 27 v2 rfl rfl) h2
  obtain ⟨_, _, rfl, ⟨A2_0, c2_0, rfl, hc2_0, hr2_0⟩, rfl⟩ := hK2
  obtain ⟨w2_0, w2_1⟩ := w2
  clear hA0 hval0 hsz0 hsz
  refine (Adds.LinAdds.walk A0 c0 l0 A1 c1 l1 A2_0 c2_0 y2.f0 y2.f1 W hr0 hc0 hr1 hr2_0 hc2_0 (fun t ht => u8b (w1.2 t ht)) (i64b w2_1) (by have := w1.1; omega) (by have := w2_0.1; omega) (fun r hr => by have := (w0.2 r hr).1.1; omega)).mono fun e W' ⟨he, bel0⟩ => ?_
  have bel : Below W.heap.size W W' := bel0
  subst he
  exact ⟨_, rfl, _, _, _, [], _, [], hW', trodAll_mk1 (shut_bool Try.underlying4 _), (trodAll_cons_mk (Below.trod laidOut (by kernel_rfl) (of_decide_eq_true (by kernel_rfl)) k0 bel lt0) (trodAll_cons_mk (Below.trod laidOut (by kernel_rfl) (of_decide_eq_true (by kernel_rfl)) k1 bel lt1) (trodAll_cons_mk (Below.trod laidOut (by kernel_rfl) (of_decide_eq_true (by kernel_rfl)) k2 bel lt2) trodAll_mk0))), rfl, bel.frame _, fun h => by cases h⟩
theorem over : Rows.linAddsRow.holds Try.pinned (OpenSpec.ofChange Rows.linAddsSpec) :=
  OpenClaim.holds_of_wide 7 Try.f7 rfl rfl rfl rfl rfl rfl rfl ⟨rfl, rfl, rfl, rfl, rfl⟩ rfl rfl rfl rfl rfl (by kernel_rfl) Try.func7 (by kernel_rfl)
    (of_decide_eq_true (by kernel_rfl)) (by unfold Func.isWrapper; first | (rw [if_pos (by decide +kernel)]; kernel_rfl) | (rw [if_neg (by decide +kernel)]; exact ⟨rfl, rfl⟩))
    (fun os started H enc _ => lifted os started H enc)
theorem proved : Rows.LinAddsSaid := over
#print axioms proved
end Go.Proofs.Ythfkajolockcgaa.linAdds
namespace Go.Proofs.Ythfkajolockcgaa
/-- The row, under a short name, for the claim. -/
theorem linAdds_holds : Rows.LinAddsSaid := linAdds.proved
end Go.Proofs.Ythfkajolockcgaa
