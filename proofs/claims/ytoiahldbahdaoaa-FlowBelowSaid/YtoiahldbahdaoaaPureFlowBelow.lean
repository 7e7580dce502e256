/- The pure statement of FlowBelow: what its walk answers is true; no condition. -/
import Derived.Test.YtoiahldbahdaoaaRdFlowBelow
namespace Go.Proofs.Ytoiahldbahdaoaa.Pure
open Go.RowKit Go.Proofs.Ytoiahldbahdaoaa.QFlowSteps Go.Proofs.Ytoiahldbahdaoaa.RdFlowBelow Go.Proofs.Ytoiahldbahdaoaa.Open
theorem u8b {t : Int} (h : IntG .u8 t) : 0 ≤ t ∧ t ≤ 255 := by
  unfold IntG at h
  simp only [Lit.wf, Bool.and_eq_true, decide_eq_true_eq] at h
  exact h
theorem FlowBelow : FlowBelow_Pure := by
  intro _ _ _ _ _ _ _ a1 a2 _ _ _ _ _ _ _ _ _ h1 h2 h3 h4
  unfold plimsolllaw08_FlowBelow.f
  rw [if_pos ⟨⟨u8b h1, u8b h2⟩, by have := h3.1; have := h4.1; omega⟩]
end Go.Proofs.Ytoiahldbahdaoaa.Pure
