/- How the parameters of the law LinProves read, and the pure statement that its row asks for; no condition. Written by a program of ours (tools/rowgen.py). -/
import Derived.Test.YthfkajolockcgaaQLinProvesx7
import Derived.Test.YthfkajolockcgaaOpen
namespace Go.Proofs.Ythfkajolockcgaa.RdLinProves
open Go.RowKit Go.Proofs.Ythfkajolockcgaa.QLinProves Go.Proofs.YthfkajolockcgaaW.PrintWords Go.Proofs.YthfkajolockcgaaW.PrintLast Go.Proofs.Ythfkajolockcgaa.Open
theorem r3 : Rdr Try.prog 3 (Kd.int .i64) (IntG .i64) := rdr_int Try.underlying3
theorem r23 : Rdr Try.prog 23 (Kd.slice 3 (Kd.int .i64)) (RowG (IntG .i64)) := rdr_slice Try.underlying23 (by kernel_rfl) r3
def G27 (x : S27) : Prop := (RowG (IntG .i64)) x.f0 ∧ (IntG .i64) x.f1
theorem r27 : Rdr Try.prog 27 k27 G27 := rdr_struct Try.underlying27 (by kernel_rfl) (rdrF_cons rfl (by kernel_rfl) rfl r23 (rdrF_one rfl (by kernel_rfl) r3)) (fun a h => ⟨⟨a.1, a.2⟩, rfl, h⟩)
theorem r22 : Rdr Try.prog 22 (Kd.slice 27 k27) (RowG G27) := rdr_slice Try.underlying22 (by kernel_rfl) r27
/-- THE PURE STATEMENT of LinProves. -/
def LinProves_Pure : Prop := ∀ (l0 : (List S27)) (l1 : (List Int)) (l2_0 : (List Int)) (a2_1 : Int), RowG G27 l0 → RowG (IntG .i64) l1 → RowG (IntG .i64) l2_0 → IntG .i64 a2_1 → ∃ k, plimsolllaw14_LinProves.f k l0 l1 l2_0 a2_1 = some true
end Go.Proofs.Ythfkajolockcgaa.RdLinProves
