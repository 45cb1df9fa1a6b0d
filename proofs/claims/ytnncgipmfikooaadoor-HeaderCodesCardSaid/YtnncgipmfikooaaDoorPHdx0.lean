-- Written by a program of this session (a changed copy of the kit's print program): not the kit's print.
import Derived.Test.YtnncgipmfikooaaDoorProg
import Derived.Below
import Derived.Deep.Draws
import Derived.Deep.AppendLies
import Derived.Maps.AppendAt
import Derived.OwnWalk
import Derived.Laws.BytesArg
import Derived.Laws.MakeOwn
import Derived.Laws.OwnMore
import Derived.Deep.OwnRows
import Derived.Tactics
import Derived.Lib.ConvBytes
import Derived.Laws.Slices
import Derived.WalkKit
import Derived.KernelRfl
import Derived.RowKit3
import Derived.Deep.LoopGhost
import Derived.Deep.QuietTactic
import Derived.BigQuiet
import Derived.WideLaws
import Derived.Deep.DeepCutAuto
import Derived.Deep.CutBlock
import Derived.Deep.RegionHeld3
import Derived.Laws.Rows
import Derived.Lib.AppendStr
import Derived.ArgAppend
import Derived.Laws.IdiomCopy
import Derived.OrdersHeld
import Derived.Laws.BitsLemmas
import Derived.RowKit
import Derived.Test.YtnncgipmfikooaaDoorWWords
import Derived.Test.YtnncgipmfikooaaDoorWLast
import Derived.Test.YtnncgipmfikooaaDoorWTab
import Derived.Test.YtnncgipmfikooaaDoorWFour
import Derived.Test.YtnncgipmfikooaaDoorWQPut
import Derived.Test.YtnncgipmfikooaaDoorWApart
import Derived.Test.YtnncgipmfikooaaDoorWArr
import Derived.Test.YtnncgipmfikooaaDoorWZeros
import Derived.Test.YtnncgipmfikooaaDoorWFoot
import Derived.Test.YtnncgipmfikooaaDoorWKept
import Derived.Test.YtnncgipmfikooaaDoorWShare
import Derived.Test.YtnncgipmfikooaaDoorWN
import Derived.Test.YtnncgipmfikooaaDoorWFootNe
import Derived.Test.YtnncgipmfikooaaDoorWAt
import Derived.Test.YtnncgipmfikooaaDoorWEqStruct
import Derived.Test.YtnncgipmfikooaaDoorWRepsOne
import Derived.Test.YtnncgipmfikooaaDoorWInv
import Derived.Test.YtnncgipmfikooaaDoorWInvWords
import Derived.Test.YtnncgipmfikooaaDoorWGuard
import Derived.Test.YtnncgipmfikooaaDoorWNEv
import Derived.Test.YtnncgipmfikooaaDoorWMore
namespace Go.Proofs.YtnncgipmfikooaaDoor.PHd
open Go.RowKit Go.Proofs.YtnncgipmfikooaaDoorW.PrintWords Go.Proofs.YtnncgipmfikooaaDoorW.PrintLast Go.Proofs.YtnncgipmfikooaaDoorW.PrintMore
attribute [local go_sem] max2_int min2_int max_two min_two max_three min_three max_four min_four   -- for this text's walks alone
set_option linter.unusedVariables false
set_option linter.unusedSimpArgs false



def errW : Option Int → Value
  | none => .nilIface
  | some c => .iface 0 (.int .i64 c)
theorem errW_none : errW none = .nilIface := rfl
theorem errW_some (c : Int) : errW (some c) = .iface 0 (.int .i64 c) := rfl

theorem info5 : (Tryd.prog.info? 5).map (fun i => (i.zero, i.size, i.bytes)) = some (some (.int .u8 0), 1, 1) := by kernel_rfl
theorem info9 : (Tryd.prog.info? 9).map (fun i => (i.zero, i.size, i.bytes)) = some (some (.string ⟨#[]⟩), 1, 16) := by kernel_rfl
-- the values' own types

end Go.Proofs.YtnncgipmfikooaaDoor.PHd
