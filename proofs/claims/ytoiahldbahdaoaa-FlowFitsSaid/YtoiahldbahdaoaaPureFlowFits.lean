/- The pure statement of FlowFits: what its walk answers is true; no condition. -/
import Derived.Test.YtoiahldbahdaoaaRdFlowFits
namespace Go.Proofs.Ytoiahldbahdaoaa.Pure
open Go.RowKit Go.Proofs.Ytoiahldbahdaoaa.QFlowSteps Go.Proofs.Ytoiahldbahdaoaa.RdFlowFits Go.Proofs.Ytoiahldbahdaoaa.Open
theorem u8b {t : Int} (h : IntG .u8 t) : 0 ≤ t ∧ t ≤ 255 := by
  unfold IntG at h
  simp only [Lit.wf, Bool.and_eq_true, decide_eq_true_eq] at h
  exact h
theorem FlowFits : FlowFits_Pure := by
  intro _ _ _ _ _ _ _ a1 a2 _ _ _ _ _ _ _ _ _ h1 h2 _ _
  unfold plimsolllaw08_FlowFits.f
  rw [if_pos ⟨u8b h1, u8b h2⟩]
end Go.Proofs.Ytoiahldbahdaoaa.Pure
