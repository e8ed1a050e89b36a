-- Written by a program of this session (wip/tools/unit.py) with the kit's print.
import Derived.Test.YtoeklekjhaigoaaProg
import Derived.Below
import Derived.Deep.Draws
import Derived.Deep.AppendLies
import Derived.Maps.AppendAt
import Derived.OwnWalk
import Derived.Laws.BytesArg
import Derived.Laws.MakeOwn
import Derived.Laws.OwnMore
import Derived.Deep.OwnRows
import Derived.Tactics
import Derived.Lib.ConvBytes
import Derived.Laws.Slices
import Derived.WalkKit
import Derived.KernelRfl
import Derived.RowKit3
import Derived.Deep.LoopGhost
import Derived.Deep.QuietTactic
import Derived.BigQuiet
import Derived.WideLaws
import Derived.Deep.DeepCutAuto
import Derived.Deep.CutBlock
import Derived.Deep.RegionHeld3
import Derived.Laws.Rows
import Derived.Lib.AppendStr
import Derived.ArgAppend
import Derived.Laws.IdiomCopy
import Derived.OrdersHeld
import Derived.Laws.BitsLemmas
import Derived.RowKit
import Derived.Test.YtoeklekjhaigoaaLex0
import Derived.Test.YtoeklekjhaigoaaLex1
import Derived.Test.YtoeklekjhaigoaaC1x0
import Derived.Test.YtoeklekjhaigoaaC1x1
import Derived.Test.YtoeklekjhaigoaaC2x0
import Derived.Test.YtoeklekjhaigoaaC2x1
import Derived.Test.YtoeklekjhaigoaaHAct
import Derived.Test.YtoeklekjhaigoaaW0x0
import Derived.Test.YtoeklekjhaigoaaW0x1
import Derived.Test.YtoeklekjhaigoaaW0x2
import Derived.Test.YtoeklekjhaigoaaW0x3
import Derived.Test.YtoeklekjhaigoaaHFrom
import Derived.Test.YtoeklekjhaigoaaW1x0
import Derived.Test.YtoeklekjhaigoaaW1x1
import Derived.Test.YtoeklekjhaigoaaW1x2
import Derived.Test.YtoeklekjhaigoaaWWords
import Derived.Test.YtoeklekjhaigoaaWLast
import Derived.Test.YtoeklekjhaigoaaWTab
import Derived.Test.YtoeklekjhaigoaaWFour
import Derived.Test.YtoeklekjhaigoaaWQPut
import Derived.Test.YtoeklekjhaigoaaWApart
import Derived.Test.YtoeklekjhaigoaaWArr
import Derived.Test.YtoeklekjhaigoaaWZeros
import Derived.Test.YtoeklekjhaigoaaWFoot
import Derived.Test.YtoeklekjhaigoaaWKept
import Derived.Test.YtoeklekjhaigoaaWShare
import Derived.Test.YtoeklekjhaigoaaWN
import Derived.Test.YtoeklekjhaigoaaWFootNe
import Derived.Test.YtoeklekjhaigoaaWAt
import Derived.Test.YtoeklekjhaigoaaWEqStruct
import Derived.Test.YtoeklekjhaigoaaWRepsOne
import Derived.Test.YtoeklekjhaigoaaWInv
import Derived.Test.YtoeklekjhaigoaaWInvWords
import Derived.Test.YtoeklekjhaigoaaWGuard
import Derived.Test.YtoeklekjhaigoaaWNEv
import Derived.Test.YtoeklekjhaigoaaWMore
namespace Go.Proofs.Ytoeklekjhaigoaa.R01
open Go.RowKit Go.Proofs.YtoeklekjhaigoaaW.PrintWords Go.Proofs.YtoeklekjhaigoaaW.PrintLast Go.Proofs.YtoeklekjhaigoaaW.PrintMore
attribute [local go_sem] max2_int min2_int max_two min_two max_three min_three max_four min_four IntKind.wrap_u32 IntKind.wrap_u8   -- for this text's walks alone
set_option linter.unusedVariables false
open Go.Proofs.Ytoeklekjhaigoaa.Le Go.Proofs.Ytoeklekjhaigoaa.C1 Go.Proofs.Ytoeklekjhaigoaa.C2 Go.Proofs.Ytoeklekjhaigoaa.HAct Go.Proofs.Ytoeklekjhaigoaa.W0 Go.Proofs.Ytoeklekjhaigoaa.HFrom Go.Proofs.Ytoeklekjhaigoaa.W1
set_option linter.unusedSimpArgs false



def errW : Option Int → Value
  | none => .nilIface
  | some c => .iface 0 (.int .i64 c)
theorem errW_none : errW none = .nilIface := rfl
theorem errW_some (c : Int) : errW (some c) = .iface 0 (.int .i64 c) := rfl

-- the values' own types

end Go.Proofs.Ytoeklekjhaigoaa.R01
