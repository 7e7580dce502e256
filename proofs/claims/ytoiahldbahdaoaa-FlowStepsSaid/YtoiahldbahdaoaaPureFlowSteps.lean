/- The pure statement of FlowSteps: what its walk answers is true; no condition. -/
import Derived.Test.YtoiahldbahdaoaaRdFlowSteps
namespace Go.Proofs.Ytoiahldbahdaoaa.Pure
open Go.RowKit Go.Proofs.Ytoiahldbahdaoaa.QFlowSteps Go.Proofs.Ytoiahldbahdaoaa.RdFlowSteps Go.Proofs.Ytoiahldbahdaoaa.Open
theorem FlowSteps : FlowSteps_Pure := by
  intro _ _ _ _ _ _ _ a1 a2 _ _ _ _ _ _ _ _ h1 h2 _
  unfold plimsolllaw08_FlowSteps.f
  rw [if_pos trivial]
end Go.Proofs.Ytoiahldbahdaoaa.Pure
