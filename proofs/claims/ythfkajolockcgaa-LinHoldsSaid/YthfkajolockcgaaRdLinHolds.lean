/- How the parameters of the law LinHolds read, and the pure statement that its row asks for; no condition. Written by a program of ours (tools/rowgen.py). -/
import Derived.Test.YthfkajolockcgaaQLinHoldsx6
import Derived.Test.YthfkajolockcgaaOpen
namespace Go.Proofs.Ythfkajolockcgaa.RdLinHolds
open Go.RowKit Go.Proofs.Ythfkajolockcgaa.QLinHolds Go.Proofs.YthfkajolockcgaaW.PrintWords Go.Proofs.YthfkajolockcgaaW.PrintLast Go.Proofs.Ythfkajolockcgaa.Open
theorem r3 : Rdr Try.prog 3 (Kd.int .i64) (IntG .i64) := rdr_int Try.underlying3
theorem r23 : Rdr Try.prog 23 (Kd.slice 3 (Kd.int .i64)) (RowG (IntG .i64)) := rdr_slice Try.underlying23 (by kernel_rfl) r3
def G27 (x : S27) : Prop := (RowG (IntG .i64)) x.f0 ∧ (IntG .i64) x.f1
theorem r27 : Rdr Try.prog 27 k27 G27 := rdr_struct Try.underlying27 (by kernel_rfl) (rdrF_cons rfl (by kernel_rfl) rfl r23 (rdrF_one rfl (by kernel_rfl) r3)) (fun a h => ⟨⟨a.1, a.2⟩, rfl, h⟩)
/-- THE PURE STATEMENT of LinHolds. -/
def LinHolds_Pure : Prop := ∀ (l0_0 : (List Int)) (a0_1 : Int) (l1 : (List Int)), RowG (IntG .i64) l0_0 → IntG .i64 a0_1 → RowG (IntG .i64) l1 → ∃ k, plimsolllaw14_LinHolds.f k l0_0 a0_1 l1 = some true
end Go.Proofs.Ythfkajolockcgaa.RdLinHolds
