/- How the parameters of the law KindOrder read, and the pure statement that its row asks for; no condition. Written by a program of ours (tools/rowgen.py). -/
import Derived.Test.YtpjpjepfcmajfaaPKindOrderx3
import Derived.Test.YtpjpjepfcmajfaaOpen
namespace Go.Proofs.Ytpjpjepfcmajfaa.RdKindOrder
open Go.RowKit Go.Proofs.Ytpjpjepfcmajfaa.PKindOrder Go.Proofs.YtpjpjepfcmajfaaW.PrintWords Go.Proofs.YtpjpjepfcmajfaaW.PrintLast Go.Proofs.Ytpjpjepfcmajfaa.Open
theorem r3 : Rdr Try.prog 3 (Kd.int .i64) (IntG .i64) := rdr_int Try.underlying3
def G24 (x : S24) : Prop := (IntG .i64) x.f0 ∧ (IntG .i64) x.f1
theorem r24 : Rdr Try.prog 24 k24 G24 := rdr_struct Try.underlying24 (by kernel_rfl) (rdrF_cons rfl (by kernel_rfl) rfl r3 (rdrF_one rfl (by kernel_rfl) r3)) (fun a h => ⟨⟨a.1, a.2⟩, rfl, h⟩)
theorem r39 : Rdr Try.prog 39 (Kd.slice 24 k24) (RowG G24) := rdr_slice Try.underlying39 (by kernel_rfl) r24
theorem r34 : Rdr Try.prog 34 (Kd.slice 3 (Kd.int .i64)) (RowG (IntG .i64)) := rdr_slice Try.underlying34 (by kernel_rfl) r3
def G41 (x : S41) : Prop := (IntG .i64) x.f0 ∧ (RowG G24) x.f1 ∧ (RowG (IntG .i64)) x.f2
theorem r41 : Rdr Try.prog 41 k41 G41 := rdr_struct Try.underlying41 (by kernel_rfl) (rdrF_cons rfl (by kernel_rfl) rfl r3 (rdrF_cons rfl (by kernel_rfl) rfl r39 (rdrF_one rfl (by kernel_rfl) r34))) (fun a h => ⟨⟨a.1, a.2.1, a.2.2⟩, rfl, h⟩)
theorem r22 : Rdr Try.prog 22 (Kd.slice 41 k41) (RowG G41) := rdr_slice Try.underlying22 (by kernel_rfl) r41
/-- THE PURE STATEMENT of KindOrder. -/
def KindOrder_Pure : Prop := ∀ (l0 : (List S41)) (a1 : Int) (a2 : Int) (a3 : Int), RowG G41 l0 → IntG .i64 a1 → IntG .i64 a2 → IntG .i64 a3 → ∃ k, plimsolllaw03_KindOrder.f k l0 a1 a2 a3 = some true
end Go.Proofs.Ytpjpjepfcmajfaa.RdKindOrder
