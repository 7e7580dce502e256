/- The pure statement of JudgeFound: what its walk answers is true; no condition. -/
import Derived.Test.YtcfbhobpfnlkpaaRdJudgeFound
namespace Go.Proofs.Ytcfbhobpfnlkpaa.Pure
open Go.RowKit Go.Proofs.Ytcfbhobpfnlkpaa.QJudgeFound Go.Proofs.Ytcfbhobpfnlkpaa.RdJudgeFound Go.Proofs.Ytcfbhobpfnlkpaa.Open
theorem fitsL {x : List (List S44)} (h : RowG 24 (RowG 32 G44) x) : Flow.FitsL x := by
  refine ⟨fun u hu => ?_, fun u hu s hs => ?_⟩
  · have := (h.2 u hu).1; omega
  · have := ((h.2 u hu).2 s hs).2.1; omega
theorem JudgeFound : JudgeFound_Pure := by
  intro _ _ _ _ _ _ _ _ _ _ _ _ _ _ _ h1
  unfold plimsolllaw10_JudgeFound.f
  exact if_pos (fitsL h1)
end Go.Proofs.Ytcfbhobpfnlkpaa.Pure
