/- How the parameters of the law FlowSteps read, and the pure statement that its row asks for; no condition. Written by a program of ours (tools/rowgen.py). -/
import Derived.Test.YtoiahldbahdaoaaFlowRS
import Derived.Test.YtoiahldbahdaoaaOpen
namespace Go.Proofs.Ytoiahldbahdaoaa.RdFlowSteps
open Go.RowKit Go.Proofs.Ytoiahldbahdaoaa.QFlowSteps Go.Proofs.YtoiahldbahdaoaaW.PrintWords Go.Proofs.YtoiahldbahdaoaaW.PrintLast Go.Proofs.Ytoiahldbahdaoaa.Open
theorem r3 : Rdr Try.prog 3 (Kd.int .i64) (IntG .i64) := rdr_int Try.underlying3
def G38 (x : S38) : Prop := (IntG .i64) x.f0 ∧ (IntG .i64) x.f1
theorem r38 : Rdr Try.prog 38 k38 G38 := rdr_struct Try.underlying38 (by kernel_rfl) (rdrF_cons rfl (by kernel_rfl) rfl r3 (rdrF_one rfl (by kernel_rfl) r3)) (fun a h => ⟨⟨a.1, a.2⟩, rfl, h⟩)
theorem r23 : Rdr Try.prog 23 (Kd.slice 38 k38) (RowG 16 G38) := rdr_slice Try.underlying23 (by kernel_rfl) (by kernel_rfl) r38
theorem r26 : Rdr Try.prog 26 (Kd.slice 3 (Kd.int .i64)) (RowG 8 (IntG .i64)) := rdr_slice Try.underlying26 (by kernel_rfl) (by kernel_rfl) r3
def G80 (x : S80) : Prop := (IntG .i64) x.f0 ∧ (RowG 16 G38) x.f1 ∧ (RowG 8 (IntG .i64)) x.f2
theorem r80 : Rdr Try.prog 80 k80 G80 := rdr_struct Try.underlying80 (by kernel_rfl) (rdrF_cons rfl (by kernel_rfl) rfl r3 (rdrF_cons rfl (by kernel_rfl) rfl r23 (rdrF_one rfl (by kernel_rfl) r26))) (fun a h => ⟨⟨a.1, a.2.1, a.2.2⟩, rfl, h⟩)
theorem r22 : Rdr Try.prog 22 (Kd.slice 80 k80) (RowG 56 G80) := rdr_slice Try.underlying22 (by kernel_rfl) (by kernel_rfl) r80
theorem r21 : Rdr Try.prog 21 (Kd.int .i32) (IntG .i32) := rdr_int Try.underlying21
theorem r24 : Rdr Try.prog 24 (Kd.slice 21 (Kd.int .i32)) (RowG 4 (IntG .i32)) := rdr_slice Try.underlying24 (by kernel_rfl) (by kernel_rfl) r21
def G44 (x : S44) : Prop := (IntG .i64) x.f0 ∧ (IntG .i64) x.f1 ∧ (IntG .i64) x.f2
theorem r44 : Rdr Try.prog 44 k44 G44 := rdr_struct Try.underlying44 (by kernel_rfl) (rdrF_cons rfl (by kernel_rfl) rfl r3 (rdrF_cons rfl (by kernel_rfl) rfl r3 (rdrF_one rfl (by kernel_rfl) r3))) (fun a h => ⟨⟨a.1, a.2.1, a.2.2⟩, rfl, h⟩)
theorem r39 : Rdr Try.prog 39 (Kd.slice 44 k44) (RowG 24 G44) := rdr_slice Try.underlying39 (by kernel_rfl) (by kernel_rfl) r44
def G41 (x : S41) : Prop := (RowG 16 G38) x.f0 ∧ (RowG 16 G38) x.f1 ∧ G38 x.f2 ∧ (RowG 24 G44) x.f3 ∧ (IntG .i64) x.f4 ∧ (IntG .i64) x.f5 ∧ (RowG 8 (IntG .i64)) x.f6
theorem r41 : Rdr Try.prog 41 k41 G41 := rdr_struct Try.underlying41 (by kernel_rfl) (rdrF_cons rfl (by kernel_rfl) rfl r23 (rdrF_cons rfl (by kernel_rfl) rfl r23 (rdrF_cons rfl (by kernel_rfl) rfl r38 (rdrF_cons rfl (by kernel_rfl) rfl r39 (rdrF_cons rfl (by kernel_rfl) rfl r3 (rdrF_cons rfl (by kernel_rfl) rfl r3 (rdrF_one rfl (by kernel_rfl) r26))))))) (fun a h => ⟨⟨a.1, a.2.1, a.2.2.1, a.2.2.2.1, a.2.2.2.2.1, a.2.2.2.2.2.1, a.2.2.2.2.2.2⟩, rfl, h⟩)
theorem r25 : Rdr Try.prog 25 (Kd.slice 41 k41) (RowG 128 G41) := rdr_slice Try.underlying25 (by kernel_rfl) (by kernel_rfl) r41
theorem r28 : Rdr Try.prog 28 (Kd.iso (Kd.pair (Kd.slice 80 k80) (Kd.pair (Kd.slice 38 k38) (Kd.pair (Kd.slice 21 (Kd.int .i32)) (Kd.pair (Kd.slice 41 k41) (Kd.pair (Kd.slice 3 (Kd.int .i64)) (Kd.pair (Kd.int .i64) (Kd.int .i64))))))) (fun x => x)) (fun a => (RowG 56 G80) a.1 ∧ (RowG 16 G38) a.2.1 ∧ (RowG 4 (IntG .i32)) a.2.2.1 ∧ (RowG 128 G41) a.2.2.2.1 ∧ (RowG 8 (IntG .i64)) a.2.2.2.2.1 ∧ (IntG .i64) a.2.2.2.2.2.1 ∧ (IntG .i64) a.2.2.2.2.2.2) := rdr_struct Try.underlying28 (by kernel_rfl) (rdrF_cons rfl (by kernel_rfl) rfl r22 (rdrF_cons rfl (by kernel_rfl) rfl r23 (rdrF_cons rfl (by kernel_rfl) rfl r24 (rdrF_cons rfl (by kernel_rfl) rfl r25 (rdrF_cons rfl (by kernel_rfl) rfl r26 (rdrF_cons rfl (by kernel_rfl) rfl r3 (rdrF_one rfl (by kernel_rfl) r3))))))) (fun a h => ⟨a, rfl, h⟩)
/-- THE PURE STATEMENT of FlowSteps. -/
def FlowSteps_Pure : Prop := ∀ (l0_0 : (List S80)) (l0_1 : (List S38)) (l0_2 : (List Int)) (l0_3 : (List S41)) (l0_4 : (List Int)) (a0_5 : Int) (a0_6 : Int) (a1 : Int) (a2 : Int) (l3 : (List S38)), RowG 56 G80 l0_0 → RowG 16 G38 l0_1 → RowG 4 (IntG .i32) l0_2 → RowG 128 G41 l0_3 → RowG 8 (IntG .i64) l0_4 → IntG .i64 a0_5 → IntG .i64 a0_6 → IntG .i64 a1 → IntG .i64 a2 → RowG 16 G38 l3 → plimsolllaw08_FlowSteps.f l0_0 l0_1 l0_2 l0_3 l0_4 a0_5 a0_6 a1 a2 l3 = some true
end Go.Proofs.Ytoiahldbahdaoaa.RdFlowSteps
