-- PRINTED BY print.sh 35421559b90ae4d0a3588c463048766b98c2df88dd9212a6774a882060cdf62d: not written by this session
import Derived.Test.YtnpcaickoeboeaaProg
import Derived.Below
import Derived.Deep.Draws
import Derived.Deep.AppendLies
import Derived.Maps.AppendAt
import Derived.OwnWalk
import Derived.Laws.BytesArg
import Derived.Laws.MakeOwn
import Derived.Laws.OwnMore
import Derived.Deep.OwnRows
import Derived.Tactics
import Derived.Lib.ConvBytes
import Derived.Laws.Slices
import Derived.WalkKit
import Derived.KernelRfl
import Derived.RowKit3
import Derived.Deep.LoopGhost
import Derived.Deep.QuietTactic
import Derived.BigQuiet
import Derived.WideLaws
import Derived.Deep.DeepCutAuto
import Derived.Deep.CutBlock
import Derived.Deep.RegionHeld3
import Derived.Laws.Rows
import Derived.Lib.AppendStr
import Derived.ArgAppend
import Derived.Laws.IdiomCopy
import Derived.OrdersHeld
import Derived.Laws.BitsLemmas
import Derived.RowKit
import Derived.Test.YtnpcaickoeboeaaWWords
import Derived.Test.YtnpcaickoeboeaaWLast
import Derived.Test.YtnpcaickoeboeaaWTab
import Derived.Test.YtnpcaickoeboeaaWFour
import Derived.Test.YtnpcaickoeboeaaWQPut
import Derived.Test.YtnpcaickoeboeaaWApart
import Derived.Test.YtnpcaickoeboeaaWArr
import Derived.Test.YtnpcaickoeboeaaWZeros
import Derived.Test.YtnpcaickoeboeaaWFoot
import Derived.Test.YtnpcaickoeboeaaWKept
import Derived.Test.YtnpcaickoeboeaaWShare
import Derived.Test.YtnpcaickoeboeaaWN
import Derived.Test.YtnpcaickoeboeaaWFootNe
import Derived.Test.YtnpcaickoeboeaaWAt
import Derived.Test.YtnpcaickoeboeaaWEqStruct
import Derived.Test.YtnpcaickoeboeaaWRepsOne
import Derived.Test.YtnpcaickoeboeaaWInv
import Derived.Test.YtnpcaickoeboeaaWInvWords
import Derived.Test.YtnpcaickoeboeaaWGuard
import Derived.Test.YtnpcaickoeboeaaWNEv
import Derived.Test.YtnpcaickoeboeaaWMore
namespace Go.Proofs.Ytnpcaickoeboeaa.PNumKinds
open Go.RowKit Go.Proofs.YtnpcaickoeboeaaW.PrintWords Go.Proofs.YtnpcaickoeboeaaW.PrintLast Go.Proofs.YtnpcaickoeboeaaW.PrintMore
attribute [local go_sem] max2_int min2_int max_two min_two max_three min_three max_four min_four   -- for this text's walks alone
set_option linter.unusedVariables false
set_option linter.unusedSimpArgs false



def errW : Option Int → Value
  | none => .nilIface
  | some c => .iface 0 (.int .i64 c)
theorem errW_none : errW none = .nilIface := rfl
theorem errW_some (c : Int) : errW (some c) = .iface 0 (.int .i64 c) := rfl

theorem info5 : (Try.prog.info? 5).map (fun i => (i.zero, i.size, i.bytes)) = some (some (.int .u8 0), 1, 1) := by kernel_rfl
-- the values' own types

end Go.Proofs.Ytnpcaickoeboeaa.PNumKinds
