/- Types behind an instruction, as a value. -/
import Derived.Test.YtcfbhobpfnlkpaaJudgeFQ
namespace Go.Proofs.Ytcfbhobpfnlkpaa.Flow
open Go.RowKit Go.Proofs.Ytcfbhobpfnlkpaa.QJudgeFound Go.Proofs.YtcfbhobpfnlkpaaW.PrintWords Go.Proofs.YtcfbhobpfnlkpaaW.PrintLast Go.Proofs.Ytcfbhobpfnlkpaa.Chain
set_option linter.unusedVariables false
set_option linter.unusedSimpArgs false
def takesV (m : Im) (x : S52) (op A B : Int) : Int := if op = 6 then 1 else ((ofV m x op A B).1.length : Int)
end Go.Proofs.Ytcfbhobpfnlkpaa.Flow
