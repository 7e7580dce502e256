/- How the parameters of the law LinAdds read; no condition. Written by a program of ours (wip/lin/adds/lay.py). -/
import Derived.Test.YthfkajolockcgaaQLinAddsx4
import Derived.Test.YthfkajolockcgaaOpen
namespace Go.Proofs.Ythfkajolockcgaa.RdLinAdds
open Go.RowKit Go.Proofs.Ythfkajolockcgaa.QLinAdds Go.Proofs.YthfkajolockcgaaW.PrintWords Go.Proofs.YthfkajolockcgaaW.PrintLast Go.Proofs.Ythfkajolockcgaa.Open
theorem r3 : Rdr Try.prog 3 (Kd.int .i64) (IntG .i64) := rdr_int Try.underlying3
theorem r23 : Rdr Try.prog 23 (Kd.slice 3 (Kd.int .i64)) (RowG 8 (IntG .i64)) := rdr_slice Try.underlying23 (by kernel_rfl) (by kernel_rfl) r3
def G27 (x : S27) : Prop := (RowG 8 (IntG .i64)) x.f0 ∧ (IntG .i64) x.f1
theorem r27 : Rdr Try.prog 27 k27 G27 := rdr_struct Try.underlying27 (by kernel_rfl) (rdrF_cons rfl (by kernel_rfl) rfl r23 (rdrF_one rfl (by kernel_rfl) r3)) (fun a h => ⟨⟨a.1, a.2⟩, rfl, h⟩)
theorem r22 : Rdr Try.prog 22 (Kd.slice 27 k27) (RowG 32 G27) := rdr_slice Try.underlying22 (by kernel_rfl) (by kernel_rfl) r27
theorem r5 : Rdr Try.prog 5 (Kd.int .u8) (IntG .u8) := rdr_int Try.underlying5
theorem r41 : Rdr Try.prog 41 (Kd.slice 5 (Kd.int .u8)) (RowG 1 (IntG .u8)) := rdr_slice Try.underlying41 (by kernel_rfl) (by kernel_rfl) r5
theorem u8b {t : Int} (h : IntG .u8 t) : 0 ≤ t ∧ t ≤ 255 := by
  unfold IntG at h
  simp only [Lit.wf, Bool.and_eq_true, decide_eq_true_eq] at h
  exact h
theorem i64b {t : Int} (h : IntG .i64 t) : -9223372036854775808 ≤ t ∧ t ≤ 9223372036854775807 := by
  unfold IntG at h
  simp only [Lit.wf, Bool.and_eq_true, decide_eq_true_eq] at h
  exact h
end Go.Proofs.Ythfkajolockcgaa.RdLinAdds
