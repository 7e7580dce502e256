/- The pure statement of FlowTakes: what its walk answers is true; no condition. -/
import Derived.Test.YtoiahldbahdaoaaRdFlowTakes
namespace Go.Proofs.Ytoiahldbahdaoaa.Pure
open Go.RowKit Go.Proofs.Ytoiahldbahdaoaa.QFlowSteps Go.Proofs.Ytoiahldbahdaoaa.RdFlowTakes Go.Proofs.Ytoiahldbahdaoaa.Open
theorem u8b {t : Int} (h : IntG .u8 t) : 0 ≤ t ∧ t ≤ 255 := by
  unfold IntG at h
  simp only [Lit.wf, Bool.and_eq_true, decide_eq_true_eq] at h
  exact h
theorem FlowTakes : FlowTakes_Pure := by
  intro _ _ _ _ _ _ _ a1 a2 _ _ _ _ _ _ _ _ h1 h2 _
  unfold plimsolllaw08_FlowTakes.f
  rw [if_pos ⟨u8b h1, u8b h2⟩]
end Go.Proofs.Ytoiahldbahdaoaa.Pure
