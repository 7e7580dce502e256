/- The law JudgeOver as its row asks for it. -/
import Derived.Test.YtcfbhobpfnlkpaaJudgeRG
namespace Go.Proofs.Ytcfbhobpfnlkpaa.QJudgeFound
open Go.RowKit Go.Proofs.Ytcfbhobpfnlkpaa.Flow Go.Proofs.YtcfbhobpfnlkpaaW.PrintWords Go.Proofs.YtcfbhobpfnlkpaaW.PrintLast Go.Proofs.Ytcfbhobpfnlkpaa.Chain
set_option linter.unusedVariables false
open Classical in
noncomputable def plimsolllaw10_JudgeOver.f (l0_0 : List S80) (l0_1 : List S39) (l0_2 : List Int) (l0_3 : List S52) (l0_4 : List Int) (a0_5 : Int) (a0_6 : Int) (l1 : List (List S44)) (l2 : List (List S44)) (l3 : List (List S44)) : Option Bool := if Flow.FitsL l1 ∧ Flow.FitsL l2 ∧ Flow.FitsL l3 then some true else none
theorem plimsolllaw10_JudgeOver.calls (A0_0 : Option Addr) (c0_0 : Nat) (l0_0 : List S80) (A0_1 : Option Addr) (c0_1 : Nat) (l0_1 : List S39) (A0_2 : Option Addr) (c0_2 : Nat) (l0_2 : List Int) (A0_3 : Option Addr) (c0_3 : Nat) (l0_3 : List S52) (A0_4 : Option Addr) (c0_4 : Nat) (l0_4 : List Int) (a0_5 : Int) (a0_6 : Int) (A1 : Option Addr) (c1 : Nat) (l1 : List (List S44)) (A2 : Option Addr) (c2 : Nat) (l2 : List (List S44)) (A3 : Option Addr) (c3 : Nat) (l3 : List (List S44)) (w : World) (hr0_0 : Kd.C k80 w A0_0 l0_0.length l0_0) (hc0_0 : l0_0.length ≤ c0_0) (hr0_1 : Kd.C k39 w A0_1 l0_1.length l0_1) (hc0_1 : l0_1.length ≤ c0_1) (hr0_2 : Kd.C (Kd.int .i32) w A0_2 l0_2.length l0_2) (hc0_2 : l0_2.length ≤ c0_2) (hr0_3 : Kd.C k52 w A0_3 l0_3.length l0_3) (hc0_3 : l0_3.length ≤ c0_3) (hr0_4 : Kd.C (Kd.int .i64) w A0_4 l0_4.length l0_4) (hc0_4 : l0_4.length ≤ c0_4) (hr1 : Kd.C (Kd.slice 44 k44) w A1 l1.length l1) (hc1 : l1.length ≤ c1) (hr2 : Kd.C (Kd.slice 44 k44) w A2 l2.length l2) (hc2 : l2.length ≤ c2) (hr3 : Kd.C (Kd.slice 44 k44) w A3 l3.length l3) (hc3 : l3.length ≤ c3) (r : Bool) (h : plimsolllaw10_JudgeOver.f l0_0 l0_1 l0_2 l0_3 l0_4 a0_5 a0_6 l1 l2 l3 = some r) :
    Calls Try.prog 5 #[.agg #[.slice A0_0 l0_0.length c0_0, .slice A0_1 l0_1.length c0_1, .slice A0_2 l0_2.length c0_2, .slice A0_3 l0_3.length c0_3, .slice A0_4 l0_4.length c0_4, .int .i64 a0_5, .int .i64 a0_6], .slice A1 l1.length c1, .slice A2 l2.length c2, .slice A3 l3.length c3] w fun e w' => e = .returned (.bool r) ∧ Below w.heap.size w w' := by
  unfold plimsolllaw10_JudgeOver.f at h
  split at h
  · rename_i hh
    obtain rfl : true = r := Option.some.inj h
    exact over_law ⟨A0_0, A0_1, A0_2, A0_3, A0_4, c0_0, c0_1, c0_2, c0_3, c0_4⟩ ⟨l0_0, l0_1, l0_2, l0_3, l0_4, a0_5, a0_6⟩ A1 A2 A3 c1 c2 c3 l1 l2 l3 w ⟨hr0_0, hr0_1, hr0_2, hr0_3, hr0_4, hc0_0, hc0_1, hc0_2, hc0_3, hc0_4⟩ hr1 hc1 hr2 hc2 hr3 hc3 hh.1.1 hh.1.2 hh.2.1.1 hh.2.1.2 hh.2.2.1 hh.2.2.2
  · cases h
end Go.Proofs.Ytcfbhobpfnlkpaa.QJudgeFound
