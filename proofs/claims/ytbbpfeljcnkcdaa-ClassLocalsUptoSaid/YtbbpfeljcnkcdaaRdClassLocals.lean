/- How the parameters of the law ClassLocals read, and the pure statement that its row asks for; no condition. Written by a program of ours (tools/rowgen.py). -/
import Derived.Test.YtbbpfeljcnkcdaaQClassLocalsx6
import Derived.Test.YtbbpfeljcnkcdaaOpen
namespace Go.Proofs.Ytbbpfeljcnkcdaa.RdClassLocals
open Go.RowKit Go.Proofs.Ytbbpfeljcnkcdaa.QClassLocals Go.Proofs.YtbbpfeljcnkcdaaW.PrintWords Go.Proofs.YtbbpfeljcnkcdaaW.PrintLast Go.Proofs.Ytbbpfeljcnkcdaa.Open
theorem r3 : Rdr Try.prog 3 (Kd.int .i64) (IntG .i64) := rdr_int Try.underlying3
def G40 (x : S40) : Prop := (IntG .i64) x.f0 ∧ (IntG .i64) x.f1
theorem r40 : Rdr Try.prog 40 k40 G40 := rdr_struct Try.underlying40 (by kernel_rfl) (rdrF_cons rfl (by kernel_rfl) rfl r3 (rdrF_one rfl (by kernel_rfl) r3)) (fun a h => ⟨⟨a.1, a.2⟩, rfl, h⟩)
theorem r23 : Rdr Try.prog 23 (Kd.slice 40 k40) (RowG 16 G40) := rdr_slice Try.underlying23 (by kernel_rfl) (by kernel_rfl) r40
def G76 (x : S76) : Prop := (IntG .i64) x.f0 ∧ (IntG .i64) x.f1 ∧ (IntG .i64) x.f2
theorem r76 : Rdr Try.prog 76 k76 G76 := rdr_struct Try.underlying76 (by kernel_rfl) (rdrF_cons rfl (by kernel_rfl) rfl r3 (rdrF_cons rfl (by kernel_rfl) rfl r3 (rdrF_one rfl (by kernel_rfl) r3))) (fun a h => ⟨⟨a.1, a.2.1, a.2.2⟩, rfl, h⟩)
theorem r41 : Rdr Try.prog 41 (Kd.slice 76 k76) (RowG 24 G76) := rdr_slice Try.underlying41 (by kernel_rfl) (by kernel_rfl) r76
theorem r26 : Rdr Try.prog 26 (Kd.slice 3 (Kd.int .i64)) (RowG 8 (IntG .i64)) := rdr_slice Try.underlying26 (by kernel_rfl) (by kernel_rfl) r3
def G43 (x : S43) : Prop := (RowG 16 G40) x.f0 ∧ (RowG 16 G40) x.f1 ∧ G40 x.f2 ∧ (RowG 24 G76) x.f3 ∧ (IntG .i64) x.f4 ∧ (IntG .i64) x.f5 ∧ (RowG 8 (IntG .i64)) x.f6
theorem r43 : Rdr Try.prog 43 k43 G43 := rdr_struct Try.underlying43 (by kernel_rfl) (rdrF_cons rfl (by kernel_rfl) rfl r23 (rdrF_cons rfl (by kernel_rfl) rfl r23 (rdrF_cons rfl (by kernel_rfl) rfl r40 (rdrF_cons rfl (by kernel_rfl) rfl r41 (rdrF_cons rfl (by kernel_rfl) rfl r3 (rdrF_cons rfl (by kernel_rfl) rfl r3 (rdrF_one rfl (by kernel_rfl) r26))))))) (fun a h => ⟨⟨a.1, a.2.1, a.2.2.1, a.2.2.2.1, a.2.2.2.2.1, a.2.2.2.2.2.1, a.2.2.2.2.2.2⟩, rfl, h⟩)
/-- THE PURE STATEMENT of ClassLocals. -/
def ClassLocals_Pure : Prop := ∀ (l0_0 : (List S40)) (l0_1 : (List S40)) (a0_2 : Int) (a0_3 : Int) (l0_4 : (List S76)) (a0_5 : Int) (a0_6 : Int) (l0_7 : (List Int)) (a1 : Int), RowG 16 G40 l0_0 → RowG 16 G40 l0_1 → IntG .i64 a0_2 → IntG .i64 a0_3 → RowG 24 G76 l0_4 → IntG .i64 a0_5 → IntG .i64 a0_6 → RowG 8 (IntG .i64) l0_7 → IntG .i64 a1 → l0_0.length ≤ 1048576 → l0_1.length ≤ 1048576 → l0_4.length ≤ 1048576 → l0_7.length ≤ 1048576 → ∃ k, plimsolllaw07_ClassLocals.f k l0_0 l0_1 a0_2 a0_3 l0_4 a0_5 a0_6 l0_7 a1 = some true
end Go.Proofs.Ytbbpfeljcnkcdaa.RdClassLocals
