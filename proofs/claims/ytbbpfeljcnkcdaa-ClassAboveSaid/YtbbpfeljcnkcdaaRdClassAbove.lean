/- How the parameters of the law ClassAbove read, and the pure statement that its row asks for; no condition. Written by a program of ours (tools/rowgen.py). -/
import Derived.Test.YtbbpfeljcnkcdaaQClassAbovex7
import Derived.Test.YtbbpfeljcnkcdaaOpen
namespace Go.Proofs.Ytbbpfeljcnkcdaa.RdClassAbove
open Go.RowKit Go.Proofs.Ytbbpfeljcnkcdaa.QClassAbove Go.Proofs.YtbbpfeljcnkcdaaW.PrintWords Go.Proofs.YtbbpfeljcnkcdaaW.PrintLast Go.Proofs.Ytbbpfeljcnkcdaa.Open
theorem r3 : Rdr Try.prog 3 (Kd.int .i64) (IntG .i64) := rdr_int Try.underlying3
def G40 (x : S40) : Prop := (IntG .i64) x.f0 ∧ (IntG .i64) x.f1
theorem r40 : Rdr Try.prog 40 k40 G40 := rdr_struct Try.underlying40 (by kernel_rfl) (rdrF_cons rfl (by kernel_rfl) rfl r3 (rdrF_one rfl (by kernel_rfl) r3)) (fun a h => ⟨⟨a.1, a.2⟩, rfl, h⟩)
theorem r23 : Rdr Try.prog 23 (Kd.slice 40 k40) (RowG 16 G40) := rdr_slice Try.underlying23 (by kernel_rfl) (by kernel_rfl) r40
theorem r26 : Rdr Try.prog 26 (Kd.slice 3 (Kd.int .i64)) (RowG 8 (IntG .i64)) := rdr_slice Try.underlying26 (by kernel_rfl) (by kernel_rfl) r3
def G50 (x : S50) : Prop := (IntG .i64) x.f0 ∧ (RowG 16 G40) x.f1 ∧ (RowG 8 (IntG .i64)) x.f2
theorem r50 : Rdr Try.prog 50 k50 G50 := rdr_struct Try.underlying50 (by kernel_rfl) (rdrF_cons rfl (by kernel_rfl) rfl r3 (rdrF_cons rfl (by kernel_rfl) rfl r23 (rdrF_one rfl (by kernel_rfl) r26))) (fun a h => ⟨⟨a.1, a.2.1, a.2.2⟩, rfl, h⟩)
theorem r22 : Rdr Try.prog 22 (Kd.slice 50 k50) (RowG 56 G50) := rdr_slice Try.underlying22 (by kernel_rfl) (by kernel_rfl) r50
theorem r21 : Rdr Try.prog 21 (Kd.int .i32) (IntG .i32) := rdr_int Try.underlying21
theorem r24 : Rdr Try.prog 24 (Kd.slice 21 (Kd.int .i32)) (RowG 4 (IntG .i32)) := rdr_slice Try.underlying24 (by kernel_rfl) (by kernel_rfl) r21
def G76 (x : S76) : Prop := (IntG .i64) x.f0 ∧ (IntG .i64) x.f1 ∧ (IntG .i64) x.f2
theorem r76 : Rdr Try.prog 76 k76 G76 := rdr_struct Try.underlying76 (by kernel_rfl) (rdrF_cons rfl (by kernel_rfl) rfl r3 (rdrF_cons rfl (by kernel_rfl) rfl r3 (rdrF_one rfl (by kernel_rfl) r3))) (fun a h => ⟨⟨a.1, a.2.1, a.2.2⟩, rfl, h⟩)
theorem r41 : Rdr Try.prog 41 (Kd.slice 76 k76) (RowG 24 G76) := rdr_slice Try.underlying41 (by kernel_rfl) (by kernel_rfl) r76
def G43 (x : S43) : Prop := (RowG 16 G40) x.f0 ∧ (RowG 16 G40) x.f1 ∧ G40 x.f2 ∧ (RowG 24 G76) x.f3 ∧ (IntG .i64) x.f4 ∧ (IntG .i64) x.f5 ∧ (RowG 8 (IntG .i64)) x.f6
theorem r43 : Rdr Try.prog 43 k43 G43 := rdr_struct Try.underlying43 (by kernel_rfl) (rdrF_cons rfl (by kernel_rfl) rfl r23 (rdrF_cons rfl (by kernel_rfl) rfl r23 (rdrF_cons rfl (by kernel_rfl) rfl r40 (rdrF_cons rfl (by kernel_rfl) rfl r41 (rdrF_cons rfl (by kernel_rfl) rfl r3 (rdrF_cons rfl (by kernel_rfl) rfl r3 (rdrF_one rfl (by kernel_rfl) r26))))))) (fun a h => ⟨⟨a.1, a.2.1, a.2.2.1, a.2.2.2.1, a.2.2.2.2.1, a.2.2.2.2.2.1, a.2.2.2.2.2.2⟩, rfl, h⟩)
theorem r25 : Rdr Try.prog 25 (Kd.slice 43 k43) (RowG 128 G43) := rdr_slice Try.underlying25 (by kernel_rfl) (by kernel_rfl) r43
theorem r28 : Rdr Try.prog 28 (Kd.iso (Kd.pair (Kd.slice 50 k50) (Kd.pair (Kd.slice 40 k40) (Kd.pair (Kd.slice 21 (Kd.int .i32)) (Kd.pair (Kd.slice 43 k43) (Kd.pair (Kd.slice 3 (Kd.int .i64)) (Kd.pair (Kd.int .i64) (Kd.int .i64))))))) (fun x => x)) (fun a => (RowG 56 G50) a.1 ∧ (RowG 16 G40) a.2.1 ∧ (RowG 4 (IntG .i32)) a.2.2.1 ∧ (RowG 128 G43) a.2.2.2.1 ∧ (RowG 8 (IntG .i64)) a.2.2.2.2.1 ∧ (IntG .i64) a.2.2.2.2.2.1 ∧ (IntG .i64) a.2.2.2.2.2.2) := rdr_struct Try.underlying28 (by kernel_rfl) (rdrF_cons rfl (by kernel_rfl) rfl r22 (rdrF_cons rfl (by kernel_rfl) rfl r23 (rdrF_cons rfl (by kernel_rfl) rfl r24 (rdrF_cons rfl (by kernel_rfl) rfl r25 (rdrF_cons rfl (by kernel_rfl) rfl r26 (rdrF_cons rfl (by kernel_rfl) rfl r3 (rdrF_one rfl (by kernel_rfl) r3))))))) (fun a h => ⟨a, rfl, h⟩)
theorem r5 : Rdr Try.prog 5 (Kd.int .u8) (IntG .u8) := rdr_int Try.underlying5
/-- THE PURE STATEMENT of ClassAbove. -/
def ClassAbove_Pure : Prop := ∀ (l0_0 : (List S50)) (l0_1 : (List S40)) (l0_2 : (List Int)) (l0_3 : (List S43)) (l0_4 : (List Int)) (a0_5 : Int) (a0_6 : Int) (a1 : Int), RowG 56 G50 l0_0 → RowG 16 G40 l0_1 → RowG 4 (IntG .i32) l0_2 → RowG 128 G43 l0_3 → RowG 8 (IntG .i64) l0_4 → IntG .i64 a0_5 → IntG .i64 a0_6 → IntG .u8 a1 → ∃ k, plimsolllaw07_ClassAbove.f k l0_0 l0_1 l0_2 l0_3 l0_4 a0_5 a0_6 a1 = some true
end Go.Proofs.Ytbbpfeljcnkcdaa.RdClassAbove
