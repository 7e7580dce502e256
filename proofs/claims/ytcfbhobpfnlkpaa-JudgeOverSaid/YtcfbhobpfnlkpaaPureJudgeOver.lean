/- The pure statement of JudgeOver: what its walk answers is true; no condition. -/
import Derived.Test.YtcfbhobpfnlkpaaRdJudgeOver
namespace Go.Proofs.Ytcfbhobpfnlkpaa.Pure
open Go.RowKit Go.Proofs.Ytcfbhobpfnlkpaa.QJudgeFound Go.Proofs.Ytcfbhobpfnlkpaa.RdJudgeOver Go.Proofs.Ytcfbhobpfnlkpaa.Open
theorem fitsL {x : List (List S44)} (h : RowG 24 (RowG 32 G44) x) : Flow.FitsL x := by
  refine ⟨fun u hu => ?_, fun u hu s hs => ?_⟩
  · have := (h.2 u hu).1; omega
  · have := ((h.2 u hu).2 s hs).2.1; omega
theorem JudgeOver : JudgeOver_Pure := by
  intro _ _ _ _ _ _ _ _ _ _ _ _ _ _ _ _ _ h1 h2 h3
  unfold plimsolllaw10_JudgeOver.f
  exact if_pos ⟨fitsL h1, fitsL h2, fitsL h3⟩
end Go.Proofs.Ytcfbhobpfnlkpaa.Pure
