-- Written by a program of this session (wip/tools/unit.py) with the kit's print.
import Derived.Test.YtdiihhddcodabaaProg
import Derived.Below
import Derived.Deep.Draws
import Derived.Deep.AppendLies
import Derived.Maps.AppendAt
import Derived.OwnWalk
import Derived.Laws.BytesArg
import Derived.Laws.MakeOwn
import Derived.Laws.OwnMore
import Derived.Deep.OwnRows
import Derived.Tactics
import Derived.Lib.ConvBytes
import Derived.Laws.Slices
import Derived.WalkKit
import Derived.KernelRfl
import Derived.RowKit3
import Derived.Deep.LoopGhost
import Derived.Deep.QuietTactic
import Derived.BigQuiet
import Derived.WideLaws
import Derived.Deep.DeepCutAuto
import Derived.Deep.CutBlock
import Derived.Deep.RegionHeld3
import Derived.Laws.Rows
import Derived.Lib.AppendStr
import Derived.ArgAppend
import Derived.Laws.IdiomCopy
import Derived.OrdersHeld
import Derived.Laws.BitsLemmas
import Derived.RowKit
import Derived.Test.YtdiihhddcodabaaHCrc
import Derived.Test.YtdiihhddcodabaaWWords
import Derived.Test.YtdiihhddcodabaaWLast
import Derived.Test.YtdiihhddcodabaaWTab
import Derived.Test.YtdiihhddcodabaaWFour
import Derived.Test.YtdiihhddcodabaaWQPut
import Derived.Test.YtdiihhddcodabaaWApart
import Derived.Test.YtdiihhddcodabaaWArr
import Derived.Test.YtdiihhddcodabaaWZeros
import Derived.Test.YtdiihhddcodabaaWFoot
import Derived.Test.YtdiihhddcodabaaWKept
import Derived.Test.YtdiihhddcodabaaWShare
import Derived.Test.YtdiihhddcodabaaWN
import Derived.Test.YtdiihhddcodabaaWFootNe
import Derived.Test.YtdiihhddcodabaaWAt
import Derived.Test.YtdiihhddcodabaaWEqStruct
import Derived.Test.YtdiihhddcodabaaWRepsOne
import Derived.Test.YtdiihhddcodabaaWInv
import Derived.Test.YtdiihhddcodabaaWInvWords
import Derived.Test.YtdiihhddcodabaaWGuard
import Derived.Test.YtdiihhddcodabaaWNEv
import Derived.Test.YtdiihhddcodabaaWMore
namespace Go.Proofs.Ytdiihhddcodabaa.B
open Go.RowKit Go.Proofs.YtdiihhddcodabaaW.PrintWords Go.Proofs.YtdiihhddcodabaaW.PrintLast Go.Proofs.YtdiihhddcodabaaW.PrintMore
attribute [local go_sem] max2_int min2_int max_two min_two max_three min_three max_four min_four   -- for this text's walks alone
set_option linter.unusedVariables false
open Go.Proofs.Ytdiihhddcodabaa.HCrc
set_option linter.unusedSimpArgs false



def errW : Option Int → Value
  | none => .nilIface
  | some c => .iface 0 (.int .i64 c)
theorem errW_none : errW none = .nilIface := rfl
theorem errW_some (c : Int) : errW (some c) = .iface 0 (.int .i64 c) := rfl

theorem info5 : (Try.prog.info? 5).map (fun i => (i.zero, i.size, i.bytes)) = some (some (.int .u8 0), 1, 1) := by kernel_rfl
-- the values' own types

end Go.Proofs.Ytdiihhddcodabaa.B
