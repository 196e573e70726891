-- printed by a program of this session (NOTES: hprint); not the kit's print
import Derived.Test.YtcnbddcofgolmaaProg
import Derived.Below
import Derived.Deep.Draws
import Derived.Deep.AppendLies
import Derived.Maps.AppendAt
import Derived.OwnWalk
import Derived.Laws.BytesArg
import Derived.Laws.MakeOwn
import Derived.Laws.OwnMore
import Derived.Deep.OwnRows
import Derived.Tactics
import Derived.Lib.ConvBytes
import Derived.Laws.Slices
import Derived.WalkKit
import Derived.KernelRfl
import Derived.RowKit3
import Derived.Deep.LoopGhost
import Derived.Deep.QuietTactic
import Derived.BigQuiet
import Derived.WideLaws
import Derived.Deep.DeepCutAuto
import Derived.Deep.CutBlock
import Derived.Deep.RegionHeld3
import Derived.Laws.Rows
import Derived.Lib.AppendStr
import Derived.ArgAppend
import Derived.Laws.IdiomCopy
import Derived.OrdersHeld
import Derived.Laws.BitsLemmas
import Derived.RowKit
import Derived.Test.YtcnbddcofgolmaaAid
import Derived.Test.YtcnbddcofgolmaaWWords
import Derived.Test.YtcnbddcofgolmaaWLast
import Derived.Test.YtcnbddcofgolmaaWTab
import Derived.Test.YtcnbddcofgolmaaWFour
import Derived.Test.YtcnbddcofgolmaaWQPut
import Derived.Test.YtcnbddcofgolmaaWApart
import Derived.Test.YtcnbddcofgolmaaWArr
import Derived.Test.YtcnbddcofgolmaaWZeros
import Derived.Test.YtcnbddcofgolmaaWFoot
import Derived.Test.YtcnbddcofgolmaaWKept
import Derived.Test.YtcnbddcofgolmaaWShare
import Derived.Test.YtcnbddcofgolmaaWN
import Derived.Test.YtcnbddcofgolmaaWFootNe
import Derived.Test.YtcnbddcofgolmaaWAt
import Derived.Test.YtcnbddcofgolmaaWEqStruct
import Derived.Test.YtcnbddcofgolmaaWRepsOne
import Derived.Test.YtcnbddcofgolmaaWInv
import Derived.Test.YtcnbddcofgolmaaWInvWords
import Derived.Test.YtcnbddcofgolmaaWGuard
import Derived.Test.YtcnbddcofgolmaaWNEv
import Derived.Test.YtcnbddcofgolmaaWMore
namespace Go.Proofs.Ytcnbddcofgolmaa.Q
open Go.RowKit Go.Proofs.YtcnbddcofgolmaaW.PrintWords Go.Proofs.YtcnbddcofgolmaaW.PrintLast Go.Proofs.YtcnbddcofgolmaaW.PrintMore
attribute [local go_sem] max2_int min2_int max_two min_two max_three min_three max_four min_four   -- for this text's walks alone
set_option linter.unusedVariables false
set_option linter.unusedSimpArgs false



def errW : Option Int → Value
  | none => .nilIface
  | some c => .iface 0 (.int .i64 c)
theorem errW_none : errW none = .nilIface := rfl
theorem errW_some (c : Int) : errW (some c) = .iface 0 (.int .i64 c) := rfl

theorem info5 : (Try.prog.info? 5).map (fun i => (i.zero, i.size, i.bytes)) = some (some (.int .u8 0), 1, 1) := by kernel_rfl
-- the values' own types

end Go.Proofs.Ytcnbddcofgolmaa.Q
