/- How the parameters of the law JudgeOver read, and the pure statement that its row asks for; no condition. Written by a program of ours (tools/rowgen.py). -/
import Derived.Test.YtcfbhobpfnlkpaaJudgeRO
import Derived.Test.YtcfbhobpfnlkpaaOpen
namespace Go.Proofs.Ytcfbhobpfnlkpaa.RdJudgeOver
open Go.RowKit Go.Proofs.Ytcfbhobpfnlkpaa.QJudgeFound Go.Proofs.YtcfbhobpfnlkpaaW.PrintWords Go.Proofs.YtcfbhobpfnlkpaaW.PrintLast Go.Proofs.Ytcfbhobpfnlkpaa.Open
theorem r3 : Rdr Try.prog 3 (Kd.int .i64) (IntG .i64) := rdr_int Try.underlying3
def G39 (x : S39) : Prop := (IntG .i64) x.f0 ∧ (IntG .i64) x.f1
theorem r39 : Rdr Try.prog 39 k39 G39 := rdr_struct Try.underlying39 (by kernel_rfl) (rdrF_cons rfl (by kernel_rfl) rfl r3 (rdrF_one rfl (by kernel_rfl) r3)) (fun a h => ⟨⟨a.1, a.2⟩, rfl, h⟩)
theorem r23 : Rdr Try.prog 23 (Kd.slice 39 k39) (RowG 16 G39) := rdr_slice Try.underlying23 (by kernel_rfl) (by kernel_rfl) r39
theorem r26 : Rdr Try.prog 26 (Kd.slice 3 (Kd.int .i64)) (RowG 8 (IntG .i64)) := rdr_slice Try.underlying26 (by kernel_rfl) (by kernel_rfl) r3
def G80 (x : S80) : Prop := (IntG .i64) x.f0 ∧ (RowG 16 G39) x.f1 ∧ (RowG 8 (IntG .i64)) x.f2
theorem r80 : Rdr Try.prog 80 k80 G80 := rdr_struct Try.underlying80 (by kernel_rfl) (rdrF_cons rfl (by kernel_rfl) rfl r3 (rdrF_cons rfl (by kernel_rfl) rfl r23 (rdrF_one rfl (by kernel_rfl) r26))) (fun a h => ⟨⟨a.1, a.2.1, a.2.2⟩, rfl, h⟩)
theorem r22 : Rdr Try.prog 22 (Kd.slice 80 k80) (RowG 56 G80) := rdr_slice Try.underlying22 (by kernel_rfl) (by kernel_rfl) r80
theorem r21 : Rdr Try.prog 21 (Kd.int .i32) (IntG .i32) := rdr_int Try.underlying21
theorem r24 : Rdr Try.prog 24 (Kd.slice 21 (Kd.int .i32)) (RowG 4 (IntG .i32)) := rdr_slice Try.underlying24 (by kernel_rfl) (by kernel_rfl) r21
def G49 (x : S49) : Prop := (IntG .i64) x.f0 ∧ (IntG .i64) x.f1 ∧ (IntG .i64) x.f2
theorem r49 : Rdr Try.prog 49 k49 G49 := rdr_struct Try.underlying49 (by kernel_rfl) (rdrF_cons rfl (by kernel_rfl) rfl r3 (rdrF_cons rfl (by kernel_rfl) rfl r3 (rdrF_one rfl (by kernel_rfl) r3))) (fun a h => ⟨⟨a.1, a.2.1, a.2.2⟩, rfl, h⟩)
theorem r50 : Rdr Try.prog 50 (Kd.slice 49 k49) (RowG 24 G49) := rdr_slice Try.underlying50 (by kernel_rfl) (by kernel_rfl) r49
def G52 (x : S52) : Prop := (RowG 16 G39) x.f0 ∧ (RowG 16 G39) x.f1 ∧ G39 x.f2 ∧ (RowG 24 G49) x.f3 ∧ (IntG .i64) x.f4 ∧ (IntG .i64) x.f5 ∧ (RowG 8 (IntG .i64)) x.f6
theorem r52 : Rdr Try.prog 52 k52 G52 := rdr_struct Try.underlying52 (by kernel_rfl) (rdrF_cons rfl (by kernel_rfl) rfl r23 (rdrF_cons rfl (by kernel_rfl) rfl r23 (rdrF_cons rfl (by kernel_rfl) rfl r39 (rdrF_cons rfl (by kernel_rfl) rfl r50 (rdrF_cons rfl (by kernel_rfl) rfl r3 (rdrF_cons rfl (by kernel_rfl) rfl r3 (rdrF_one rfl (by kernel_rfl) r26))))))) (fun a h => ⟨⟨a.1, a.2.1, a.2.2.1, a.2.2.2.1, a.2.2.2.2.1, a.2.2.2.2.2.1, a.2.2.2.2.2.2⟩, rfl, h⟩)
theorem r25 : Rdr Try.prog 25 (Kd.slice 52 k52) (RowG 128 G52) := rdr_slice Try.underlying25 (by kernel_rfl) (by kernel_rfl) r52
theorem r28 : Rdr Try.prog 28 (Kd.iso (Kd.pair (Kd.slice 80 k80) (Kd.pair (Kd.slice 39 k39) (Kd.pair (Kd.slice 21 (Kd.int .i32)) (Kd.pair (Kd.slice 52 k52) (Kd.pair (Kd.slice 3 (Kd.int .i64)) (Kd.pair (Kd.int .i64) (Kd.int .i64))))))) (fun x => x)) (fun a => (RowG 56 G80) a.1 ∧ (RowG 16 G39) a.2.1 ∧ (RowG 4 (IntG .i32)) a.2.2.1 ∧ (RowG 128 G52) a.2.2.2.1 ∧ (RowG 8 (IntG .i64)) a.2.2.2.2.1 ∧ (IntG .i64) a.2.2.2.2.2.1 ∧ (IntG .i64) a.2.2.2.2.2.2) := rdr_struct Try.underlying28 (by kernel_rfl) (rdrF_cons rfl (by kernel_rfl) rfl r22 (rdrF_cons rfl (by kernel_rfl) rfl r23 (rdrF_cons rfl (by kernel_rfl) rfl r24 (rdrF_cons rfl (by kernel_rfl) rfl r25 (rdrF_cons rfl (by kernel_rfl) rfl r26 (rdrF_cons rfl (by kernel_rfl) rfl r3 (rdrF_one rfl (by kernel_rfl) r3))))))) (fun a h => ⟨a, rfl, h⟩)
theorem r4 : Rdr Try.prog 4 Kd.bool (fun _ : Bool => True) := rdr_bool Try.underlying4
def G44 (x : S44) : Prop := (fun _ : Bool => True) x.f0 ∧ (RowG 16 G39) x.f1
theorem r44 : Rdr Try.prog 44 k44 G44 := rdr_struct Try.underlying44 (by kernel_rfl) (rdrF_cons rfl (by kernel_rfl) rfl r4 (rdrF_one rfl (by kernel_rfl) r23)) (fun a h => ⟨⟨a.1, a.2⟩, rfl, h⟩)
theorem r42 : Rdr Try.prog 42 (Kd.slice 44 k44) (RowG 32 G44) := rdr_slice Try.underlying42 (by kernel_rfl) (by kernel_rfl) r44
theorem r29 : Rdr Try.prog 29 (Kd.slice 42 (Kd.slice 44 k44)) (RowG 24 (RowG 32 G44)) := rdr_slice Try.underlying29 (by kernel_rfl) (by kernel_rfl) r42
def JudgeOver_Pure : Prop := ∀ (l0_0 : (List S80)) (l0_1 : (List S39)) (l0_2 : (List Int)) (l0_3 : (List S52)) (l0_4 : (List Int)) (a0_5 : Int) (a0_6 : Int) (l1 : (List (List S44))) (l2 : (List (List S44))) (l3 : (List (List S44))), RowG 56 G80 l0_0 → RowG 16 G39 l0_1 → RowG 4 (IntG .i32) l0_2 → RowG 128 G52 l0_3 → RowG 8 (IntG .i64) l0_4 → IntG .i64 a0_5 → IntG .i64 a0_6 → RowG 24 (RowG 32 G44) l1 → RowG 24 (RowG 32 G44) l2 → RowG 24 (RowG 32 G44) l3 → plimsolllaw10_JudgeOver.f l0_0 l0_1 l0_2 l0_3 l0_4 a0_5 a0_6 l1 l2 l3 = some true
end Go.Proofs.Ytcfbhobpfnlkpaa.RdJudgeOver
