-- Written by a program of this session (a changed copy of the kit's print program): not the kit's print.
import Derived.Test.YtfdhchgemplnoaaProg
import Derived.Below
import Derived.Deep.Draws
import Derived.Deep.AppendLies
import Derived.Maps.AppendAt
import Derived.OwnWalk
import Derived.Laws.BytesArg
import Derived.Laws.MakeOwn
import Derived.Laws.OwnMore
import Derived.Deep.OwnRows
import Derived.Tactics
import Derived.Lib.ConvBytes
import Derived.Laws.Slices
import Derived.WalkKit
import Derived.KernelRfl
import Derived.RowKit3
import Derived.Deep.LoopGhost
import Derived.Deep.QuietTactic
import Derived.BigQuiet
import Derived.WideLaws
import Derived.Deep.DeepCutAuto
import Derived.Deep.CutBlock
import Derived.Deep.RegionHeld3
import Derived.Laws.Rows
import Derived.Lib.AppendStr
import Derived.ArgAppend
import Derived.Laws.IdiomCopy
import Derived.OrdersHeld
import Derived.Laws.BitsLemmas
import Derived.RowKit
import Derived.Test.YtfdhchgemplnoaaWWords
import Derived.Test.YtfdhchgemplnoaaWLast
import Derived.Test.YtfdhchgemplnoaaWTab
import Derived.Test.YtfdhchgemplnoaaWFour
import Derived.Test.YtfdhchgemplnoaaWQPut
import Derived.Test.YtfdhchgemplnoaaWApart
import Derived.Test.YtfdhchgemplnoaaWArr
import Derived.Test.YtfdhchgemplnoaaWZeros
import Derived.Test.YtfdhchgemplnoaaWFoot
import Derived.Test.YtfdhchgemplnoaaWKept
import Derived.Test.YtfdhchgemplnoaaWShare
import Derived.Test.YtfdhchgemplnoaaWN
import Derived.Test.YtfdhchgemplnoaaWFootNe
import Derived.Test.YtfdhchgemplnoaaWAt
import Derived.Test.YtfdhchgemplnoaaWEqStruct
import Derived.Test.YtfdhchgemplnoaaWRepsOne
import Derived.Test.YtfdhchgemplnoaaWInv
import Derived.Test.YtfdhchgemplnoaaWInvWords
import Derived.Test.YtfdhchgemplnoaaWGuard
import Derived.Test.YtfdhchgemplnoaaWNEv
import Derived.Test.YtfdhchgemplnoaaWMore
namespace Go.Proofs.Ytfdhchgemplnoaa.PFld
open Go.RowKit Go.Proofs.YtfdhchgemplnoaaW.PrintWords Go.Proofs.YtfdhchgemplnoaaW.PrintLast Go.Proofs.YtfdhchgemplnoaaW.PrintMore
attribute [local go_sem] max2_int min2_int max_two min_two max_three min_three max_four min_four   -- for this text's walks alone
set_option linter.unusedVariables false
set_option linter.unusedSimpArgs false



def errW : Option Int → Value
  | none => .nilIface
  | some c => .iface 0 (.int .i64 c)
theorem errW_none : errW none = .nilIface := rfl
theorem errW_some (c : Int) : errW (some c) = .iface 0 (.int .i64 c) := rfl

-- the values' own types

end Go.Proofs.Ytfdhchgemplnoaa.PFld
