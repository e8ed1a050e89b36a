-- Written by a program of this session (wip/tools/unit.py) with the kit's print.
import Derived.Test.YtefkhcijgiagdaaProg
import Derived.Below
import Derived.Deep.Draws
import Derived.Deep.AppendLies
import Derived.Maps.AppendAt
import Derived.OwnWalk
import Derived.Laws.BytesArg
import Derived.Laws.MakeOwn
import Derived.Laws.OwnMore
import Derived.Deep.OwnRows
import Derived.Tactics
import Derived.Lib.ConvBytes
import Derived.Laws.Slices
import Derived.WalkKit
import Derived.KernelRfl
import Derived.RowKit3
import Derived.Deep.LoopGhost
import Derived.Deep.QuietTactic
import Derived.BigQuiet
import Derived.WideLaws
import Derived.Deep.DeepCutAuto
import Derived.Deep.CutBlock
import Derived.Deep.RegionHeld3
import Derived.Laws.Rows
import Derived.Lib.AppendStr
import Derived.ArgAppend
import Derived.Laws.IdiomCopy
import Derived.OrdersHeld
import Derived.Laws.BitsLemmas
import Derived.RowKit
import Derived.Test.YtefkhcijgiagdaaWWords
import Derived.Test.YtefkhcijgiagdaaWLast
import Derived.Test.YtefkhcijgiagdaaWTab
import Derived.Test.YtefkhcijgiagdaaWFour
import Derived.Test.YtefkhcijgiagdaaWQPut
import Derived.Test.YtefkhcijgiagdaaWApart
import Derived.Test.YtefkhcijgiagdaaWArr
import Derived.Test.YtefkhcijgiagdaaWZeros
import Derived.Test.YtefkhcijgiagdaaWFoot
import Derived.Test.YtefkhcijgiagdaaWKept
import Derived.Test.YtefkhcijgiagdaaWShare
import Derived.Test.YtefkhcijgiagdaaWN
import Derived.Test.YtefkhcijgiagdaaWFootNe
import Derived.Test.YtefkhcijgiagdaaWAt
import Derived.Test.YtefkhcijgiagdaaWEqStruct
import Derived.Test.YtefkhcijgiagdaaWRepsOne
import Derived.Test.YtefkhcijgiagdaaWInv
import Derived.Test.YtefkhcijgiagdaaWInvWords
import Derived.Test.YtefkhcijgiagdaaWGuard
import Derived.Test.YtefkhcijgiagdaaWNEv
import Derived.Test.YtefkhcijgiagdaaWMore
import Derived.Test.YtefkhcijgiagdaaLex0
import Derived.Test.YtefkhcijgiagdaaI1x0
import Derived.Test.YtefkhcijgiagdaaE1x0
namespace Go.Proofs.Ytefkhcijgiagdaa.E2
open Go.RowKit Go.Proofs.YtefkhcijgiagdaaW.PrintWords Go.Proofs.YtefkhcijgiagdaaW.PrintLast Go.Proofs.YtefkhcijgiagdaaW.PrintMore
attribute [local go_sem] max2_int min2_int max_two min_two max_three min_three max_four min_four IntKind.wrap_u32 IntKind.wrap_u8   -- for this text's walks alone
set_option linter.unusedVariables false
open Go.Proofs.Ytefkhcijgiagdaa.Le Go.Proofs.Ytefkhcijgiagdaa.I1 Go.Proofs.Ytefkhcijgiagdaa.E1
set_option linter.unusedSimpArgs false



def errW : Option Int → Value
  | none => .nilIface
  | some c => .iface 0 (.int .i64 c)
theorem errW_none : errW none = .nilIface := rfl
theorem errW_some (c : Int) : errW (some c) = .iface 0 (.int .i64 c) := rfl

-- the values' own types

end Go.Proofs.Ytefkhcijgiagdaa.E2
