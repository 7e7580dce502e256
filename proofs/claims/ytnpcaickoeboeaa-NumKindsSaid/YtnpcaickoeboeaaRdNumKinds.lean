/- How the parameters of the law NumKinds read, and the pure statement that its row asks for; no condition. Written by a program of ours (tools/rowgen.py). -/
import Derived.Test.YtnpcaickoeboeaaKKinds
import Derived.Test.YtnpcaickoeboeaaOpen
namespace Go.Proofs.Ytnpcaickoeboeaa.RdNumKinds
open Go.RowKit Go.Proofs.Ytnpcaickoeboeaa.PNumKinds Go.Proofs.YtnpcaickoeboeaaW.PrintWords Go.Proofs.YtnpcaickoeboeaaW.PrintLast Go.Proofs.Ytnpcaickoeboeaa.Open
theorem r3 : Rdr Try.prog 3 (Kd.int .i64) (IntG .i64) := rdr_int Try.underlying3
/-- THE PURE STATEMENT of NumKinds. -/
def NumKinds_Pure : Prop := ∀ (a0 : Int), IntG .i64 a0 → ∃ k, plimsolllaw01_NumKinds.f k a0 = some true
end Go.Proofs.Ytnpcaickoeboeaa.RdNumKinds
