/- The law FlowSteps as its row asks for it. -/
import Derived.Test.YtoiahldbahdaoaaFlowLS
namespace Go.Proofs.Ytoiahldbahdaoaa.QFlowSteps
open Go.RowKit Go.Proofs.Ytoiahldbahdaoaa.Flow Go.Proofs.YtoiahldbahdaoaaW.PrintWords Go.Proofs.YtoiahldbahdaoaaW.PrintLast Go.Proofs.Ytoiahldbahdaoaa.Chain
set_option linter.unusedVariables false
/-- What the law answers, where its numbers are such: true. -/
def plimsolllaw08_FlowSteps.f (l0_0 : List S80) (l0_1 : List S38) (l0_2 : List Int) (l0_3 : List S41) (l0_4 : List Int) (a0_5 : Int) (a0_6 : Int) (a1 : Int) (a2 : Int) (l3 : List S38) : Option Bool := if True then some true else none
theorem plimsolllaw08_FlowSteps.calls (A0_0 : Option Addr) (c0_0 : Nat) (l0_0 : List S80) (A0_1 : Option Addr) (c0_1 : Nat) (l0_1 : List S38) (A0_2 : Option Addr) (c0_2 : Nat) (l0_2 : List Int) (A0_3 : Option Addr) (c0_3 : Nat) (l0_3 : List S41) (A0_4 : Option Addr) (c0_4 : Nat) (l0_4 : List Int) (a0_5 : Int) (a0_6 : Int) (a1 : Int) (a2 : Int) (A3 : Option Addr) (c3 : Nat) (l3 : List S38) (w : World) (hr0_0 : Kd.C k80 w A0_0 l0_0.length l0_0) (hc0_0 : l0_0.length ≤ c0_0) (hr0_1 : Kd.C k38 w A0_1 l0_1.length l0_1) (hc0_1 : l0_1.length ≤ c0_1) (hr0_2 : Kd.C (Kd.int .i32) w A0_2 l0_2.length l0_2) (hc0_2 : l0_2.length ≤ c0_2) (hr0_3 : Kd.C k41 w A0_3 l0_3.length l0_3) (hc0_3 : l0_3.length ≤ c0_3) (hr0_4 : Kd.C (Kd.int .i64) w A0_4 l0_4.length l0_4) (hc0_4 : l0_4.length ≤ c0_4) (hr3 : Kd.C k38 w A3 l3.length l3) (hc3 : l3.length ≤ c3) (r : Bool) (h : plimsolllaw08_FlowSteps.f l0_0 l0_1 l0_2 l0_3 l0_4 a0_5 a0_6 a1 a2 l3 = some r) :
    Calls Try.prog 3 #[.agg #[.slice A0_0 l0_0.length c0_0, .slice A0_1 l0_1.length c0_1, .slice A0_2 l0_2.length c0_2, .slice A0_3 l0_3.length c0_3, .slice A0_4 l0_4.length c0_4, .int .i64 a0_5, .int .i64 a0_6], .int .i64 a1, .int .i64 a2, .slice A3 l3.length c3] w fun e w' => e = .returned (.bool r) ∧ Below w.heap.size w w' := by
  unfold plimsolllaw08_FlowSteps.f at h
  split at h
  · rename_i hh
    obtain rfl : true = r := Option.some.inj h
    exact steps_law ⟨A0_0, A0_1, A0_2, A0_3, A0_4, c0_0, c0_1, c0_2, c0_3, c0_4⟩ ⟨l0_0, l0_1, l0_2, l0_3, l0_4, a0_5, a0_6⟩ a1 a2 A3 c3 l3 w ⟨hr0_0, hr0_1, hr0_2, hr0_3, hr0_4, hc0_0, hc0_1, hc0_2, hc0_3, hc0_4⟩ hr3 hc3
  · cases h
end Go.Proofs.Ytoiahldbahdaoaa.QFlowSteps
