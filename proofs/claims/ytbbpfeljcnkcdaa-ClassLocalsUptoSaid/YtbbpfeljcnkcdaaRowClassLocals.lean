/- The row of the law ClassLocals: it returns true, and each argument reads behind the call as it read before, where what it reads is of bulk at most 1048576. Written by a program of ours (tools/rowgen.py). -/
import Derived.Test.YtbbpfeljcnkcdaaRows
import Derived.Test.YtbbpfeljcnkcdaaRdClassLocals
import Derived.Test.YtbbpfeljcnkcdaaBulk
import Derived.Test.YtbbpfeljcnkcdaaPureClassLocals
import Derived.WalkKit
import Derived.ProofKit
import Derived.OpenShut
import Derived.ShutString
import Derived.ChangeOld
import Derived.Below
import Derived.SizedLaws
import Derived.JoinedCond
import Derived.Deep.CondSized
namespace Go.Proofs.Ytbbpfeljcnkcdaa.classLocals
open Go.ChangeShapes Go.WideShapes Go.ChangeAt Go.RowKit Go.Proofs.Ytbbpfeljcnkcdaa.Open Go.Proofs.Ytbbpfeljcnkcdaa.RdClassLocals Go.Proofs.Ytbbpfeljcnkcdaa.QClassLocals
open Go.Proofs.YtbbpfeljcnkcdaaW.PrintWords (Kd)
theorem own : ownKnob Try.prog.godebug = none := by kernel_rfl
theorem laidOut : laidOutB Try.prog = true := by kernel_rfl
set_option maxRecDepth 100000 in
theorem lifted (os : Os) (started : os.Started) (H : Type) (enc : TypeId × Value → H) (F : Stop.Interp) :
    ReturnsInHanded {} Try.checked os 4 .any ((Rows.OpenSpec.upto Rows.classLocalsSpec).pre6 enc Try.prog Try.f4 Rows.classLocalsUptoRow.domain false) (((Rows.OpenSpec.upto Rows.classLocalsSpec).at F).post enc Try.prog Try.f4 false true false false) := by
  refine returnsInHanded_of_cond_sized (C := Try.checked) (s := Rows.OpenSpec.upto Rows.classLocalsSpec) (k := Rows.uptoSmall) rfl own started (by kernel_rfl) Try.func4
    (OpenSpec.witness (enc := enc) (C := Try.checked) (s := Rows.OpenSpec.upto Rows.classLocalsSpec) (k := Rows.uptoSmall) rfl false ⟨#[], #[.agg #[.slice none 0 0, .slice none 0 0, .int .i64 0, .int .i64 0, .slice none 0 0, .int .i64 0, .int .i64 0, .slice none 0 0], .int .i64 0], []⟩ 8 (by kernel_rfl) (by kernel_rfl) (by kernel_rfl)
      (x := ([.agg [.nil, .nil, .agg [.lit (.int .i64 0), .lit (.int .i64 0)], .nil, .lit (.int .i64 0), .lit (.int .i64 0), .nil], .lit (.int .i64 0)], [], [])) (by kernel_rfl) rfl (by kernel_rfl)) ?_
  intro W base args ds gs before hval0 hW hcnd hk hsz0 _
  have hbulk := of_decide_eq_true hk
  have hsz : (DataW.weightsEach Try.prog (Try.f4.params.toList ++ Rows.classLocalsSpec.plain.varTypes Try.prog) (ds ++ gs)).all (· ≤ reachBytes) = true := hsz0
  have hval : ∀ (j : Nat) t v, Try.f4.params[j]? = some t → args[j]? = some v → Value.okWide Try.prog W .any base t v := hval0
  have hW' := hW
  obtain ⟨p, q, hA0, hV, rfl, hfz, hnd⟩ := hW
  have hA : DataW.TrodAll enc Try.prog W 0 (fun _ => true) true Try.f4.params.toList args.toList ds p := hA0
  rw [Try.params4] at hA hval hsz
  obtain ⟨v0, vs0, d0, ds0, p0, q0, hargs, rfl, rfl, h0, r900⟩ := trodAll_cons hA
  obtain ⟨v1, vs1, d1, ds1, p1, q1, rfl, rfl, rfl, h1, r901⟩ := trodAll_cons r900
  obtain ⟨rfl, rfl, rfl⟩ := trodAll_nil r901
  obtain rfl : args = #[v0, v1] := by cases args; simp_all
  obtain ⟨rfl, rfl⟩ := trodVars_none hV
  have k0 := h0
  have lt0 : ∀ x ∈ p0, x.block < W.heap.size := by obtain ⟨m, hm⟩ := k0; exact DataW.trod_lt m _ _ _ hm
  obtain ⟨y0, cs0, rfl, hK0, w0⟩ := arg_struct Try.underlying43 r43 (each_weight hsz 0 43 _ rfl rfl) (hval 0 43 v0 rfl rfl) h0
  obtain ⟨_, _, rfl, ⟨A0_0, c0_0, rfl, hc0_0, hr0_0⟩, ⟨_, _, rfl, ⟨A0_1, c0_1, rfl, hc0_1, hr0_1⟩, ⟨_, _, rfl, ⟨_, _, rfl, rfl, rfl⟩, ⟨_, _, rfl, ⟨A0_4, c0_4, rfl, hc0_4, hr0_4⟩, ⟨_, _, rfl, rfl, ⟨_, _, rfl, rfl, ⟨A0_7, c0_7, rfl, hc0_7, hr0_7⟩⟩⟩⟩⟩⟩⟩ := hK0
  obtain ⟨w0_0, w0_1, ⟨w0_2, w0_3⟩, w0_4, w0_5, w0_6, w0_7⟩ := w0
  obtain ⟨a1, rfl, rfl, rfl, w1⟩ := open_int Try.underlying3 (hval 1 3 v1 rfl rfl) h1
  have n0_0 : (y0.f0).length ≤ 1048576 := Nat.le_trans (Bulk.len_field Try.underlying43 Try.underlying23 0 rfl ⟨rfl, by kernel_rfl⟩ k0 rfl) (Nat.le_trans (Bulk.part_at (i := 0) (by rfl)) hbulk)
  have n0_1 : (y0.f1).length ≤ 1048576 := Nat.le_trans (Bulk.len_field Try.underlying43 Try.underlying23 1 rfl ⟨rfl, by kernel_rfl⟩ k0 rfl) (Nat.le_trans (Bulk.part_at (i := 0) (by rfl)) hbulk)
  have n0_4 : (y0.f3).length ≤ 1048576 := Nat.le_trans (Bulk.len_field Try.underlying43 Try.underlying41 3 rfl ⟨rfl, by kernel_rfl⟩ k0 rfl) (Nat.le_trans (Bulk.part_at (i := 0) (by rfl)) hbulk)
  have n0_7 : (y0.f6).length ≤ 1048576 := Nat.le_trans (Bulk.len_field Try.underlying43 Try.underlying26 6 rfl ⟨rfl, by kernel_rfl⟩ k0 rfl) (Nat.le_trans (Bulk.part_at (i := 0) (by rfl)) hbulk)
  clear hA0 hval0 hsz0 hsz hbulk
  obtain ⟨k, h⟩ := Pure.ClassLocals (y0.f0) (y0.f1) (y0.f2.f0) (y0.f2.f1) (y0.f3) (y0.f4) (y0.f5) (y0.f6) a1 w0_0 w0_1 w0_2 w0_3 w0_4 w0_5 w0_6 w0_7 w1 n0_0 n0_1 n0_4 n0_7
  refine (plimsolllaw07_ClassLocals.calls k A0_0 c0_0 (y0.f0) A0_1 c0_1 (y0.f1) (y0.f2.f0) (y0.f2.f1) A0_4 c0_4 (y0.f3) (y0.f4) (y0.f5) A0_7 c0_7 (y0.f6) a1 true W hr0_0 hc0_0 hr0_1 hc0_1 hr0_4 hc0_4 hr0_7 hc0_7 ⟨rfl⟩ h).mono fun e W' ⟨he, bel0⟩ => ?_
  have bel : Below W.heap.size W W' := bel0
  subst he
  exact ⟨_, rfl, _, _, _, [], _, [], hW', trodAll_mk1 (shut_bool Try.underlying4 _), (trodAll_cons_mk (Below.trod laidOut (by kernel_rfl) (of_decide_eq_true (by kernel_rfl)) k0 bel lt0) (trodAll_cons_mk (shut_int Try.underlying3 w1) trodAll_mk0)), rfl, bel.frame _, fun h => by cases h⟩
theorem over : Rows.classLocalsUptoRow.holds Try.pinned (Rows.OpenSpec.upto Rows.classLocalsSpec) :=
  OpenClaim.holds_of_cond 4 Try.f4 rfl rfl rfl rfl rfl rfl rfl ⟨rfl, rfl, rfl, rfl, rfl⟩ rfl rfl rfl rfl rfl (by kernel_rfl) Try.func4 (by kernel_rfl)
    (of_decide_eq_true (by kernel_rfl)) (by unfold Func.isWrapper; first | (rw [if_pos (by decide +kernel)]; kernel_rfl) | (rw [if_neg (by decide +kernel)]; exact ⟨rfl, rfl⟩))
    (fun os started H enc _ F => lifted os started H enc F)
theorem proved : Rows.ClassLocalsUptoSaid := over
#print axioms proved
end Go.Proofs.Ytbbpfeljcnkcdaa.classLocals
namespace Go.Proofs.Ytbbpfeljcnkcdaa
/-- The row, under a short name, for the claim. -/
theorem classLocals_holds : Rows.ClassLocalsUptoSaid := classLocals.proved
end Go.Proofs.Ytbbpfeljcnkcdaa
