/- How the parameters of the law LinSound read, and the pure statement that its row asks for; no condition. Written by a program of ours (tools/rowgen.py). -/
import Derived.Test.YthfkajolockcgaaQLinSoundx5
import Derived.Test.YthfkajolockcgaaOpen
namespace Go.Proofs.Ythfkajolockcgaa.RdLinSound
open Go.RowKit Go.Proofs.Ythfkajolockcgaa.QLinSound Go.Proofs.YthfkajolockcgaaW.PrintWords Go.Proofs.YthfkajolockcgaaW.PrintLast Go.Proofs.Ythfkajolockcgaa.Open
theorem r3 : Rdr Try.prog 3 (Kd.int .i64) (IntG .i64) := rdr_int Try.underlying3
theorem r23 : Rdr Try.prog 23 (Kd.slice 3 (Kd.int .i64)) (RowG (IntG .i64)) := rdr_slice Try.underlying23 (by kernel_rfl) r3
def G27 (x : S27) : Prop := (RowG (IntG .i64)) x.f0 ∧ (IntG .i64) x.f1
theorem r27 : Rdr Try.prog 27 k27 G27 := rdr_struct Try.underlying27 (by kernel_rfl) (rdrF_cons rfl (by kernel_rfl) rfl r23 (rdrF_one rfl (by kernel_rfl) r3)) (fun a h => ⟨⟨a.1, a.2⟩, rfl, h⟩)
theorem r22 : Rdr Try.prog 22 (Kd.slice 27 k27) (RowG G27) := rdr_slice Try.underlying22 (by kernel_rfl) r27
theorem r5 : Rdr Try.prog 5 (Kd.int .u8) (IntG .u8) := rdr_int Try.underlying5
theorem r41 : Rdr Try.prog 41 (Kd.slice 5 (Kd.int .u8)) (RowG (IntG .u8)) := rdr_slice Try.underlying41 (by kernel_rfl) r5
theorem r43 : Rdr Try.prog 43 (Kd.int .i16) (IntG .i16) := rdr_int Try.underlying43
theorem r42 : Rdr Try.prog 42 (Kd.slice 43 (Kd.int .i16)) (RowG (IntG .i16)) := rdr_slice Try.underlying42 (by kernel_rfl) r43
/-- THE PURE STATEMENT of LinSound. -/
def LinSound_Pure : Prop := ∀ (l0 : (List S27)) (l1 : (List Int)) (l2_0 : (List Int)) (a2_1 : Int) (l3 : (List Int)), RowG G27 l0 → RowG (IntG .u8) l1 → RowG (IntG .i64) l2_0 → IntG .i64 a2_1 → RowG (IntG .i16) l3 → ∃ k, plimsolllaw14_LinSound.f k l0 l1 l2_0 a2_1 l3 = some true
end Go.Proofs.Ythfkajolockcgaa.RdLinSound
