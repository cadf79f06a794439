-- Written for this claim by wip/gen/mk.sh, this session's own driver over the kit's print
import Derived.Test.YtalfhpghmoikoaaDoorProg
import Derived.Below
import Derived.Deep.Draws
import Derived.Deep.AppendLies
import Derived.Maps.AppendAt
import Derived.OwnWalk
import Derived.Laws.BytesArg
import Derived.Laws.MakeOwn
import Derived.Laws.OwnMore
import Derived.Deep.OwnRows
import Derived.Tactics
import Derived.Lib.ConvBytes
import Derived.Laws.Slices
import Derived.WalkKit
import Derived.KernelRfl
import Derived.RowKit3
import Derived.Deep.LoopGhost
import Derived.Deep.QuietTactic
import Derived.BigQuiet
import Derived.WideLaws
import Derived.Deep.DeepCutAuto
import Derived.Deep.CutBlock
import Derived.Deep.RegionHeld3
import Derived.Laws.Rows
import Derived.Lib.AppendStr
import Derived.ArgAppend
import Derived.Laws.IdiomCopy
import Derived.OrdersHeld
import Derived.Laws.BitsLemmas
import Derived.RowKit
import Derived.Laws.Externs
import Derived.Test.YtalfhpghmoikoaaDoorWWords
import Derived.Test.YtalfhpghmoikoaaDoorWLast
import Derived.Test.YtalfhpghmoikoaaDoorWTab
import Derived.Test.YtalfhpghmoikoaaDoorWFour
import Derived.Test.YtalfhpghmoikoaaDoorWQPut
import Derived.Test.YtalfhpghmoikoaaDoorWApart
import Derived.Test.YtalfhpghmoikoaaDoorWArr
import Derived.Test.YtalfhpghmoikoaaDoorWZeros
import Derived.Test.YtalfhpghmoikoaaDoorWFoot
import Derived.Test.YtalfhpghmoikoaaDoorWKept
import Derived.Test.YtalfhpghmoikoaaDoorWShare
import Derived.Test.YtalfhpghmoikoaaDoorWN
import Derived.Test.YtalfhpghmoikoaaDoorWFootNe
import Derived.Test.YtalfhpghmoikoaaDoorWAt
import Derived.Test.YtalfhpghmoikoaaDoorWEqStruct
import Derived.Test.YtalfhpghmoikoaaDoorWRepsOne
import Derived.Test.YtalfhpghmoikoaaDoorWInv
import Derived.Test.YtalfhpghmoikoaaDoorWInvWords
import Derived.Test.YtalfhpghmoikoaaDoorWGuard
import Derived.Test.YtalfhpghmoikoaaDoorWNEv
import Derived.Test.YtalfhpghmoikoaaDoorWMore
namespace Go.Proofs.YtalfhpghmoikoaaDoor.PRootTells
open Go.RowKit Go.Proofs.YtalfhpghmoikoaaDoorW.PrintWords Go.Proofs.YtalfhpghmoikoaaDoorW.PrintLast Go.Proofs.YtalfhpghmoikoaaDoorW.PrintMore
attribute [local go_sem] max2_int min2_int max_two min_two max_three min_three max_four min_four   -- for this text's walks alone
set_option linter.unusedVariables false
set_option linter.unusedSimpArgs false



def errW : Option Int → Value
  | none => .nilIface
  | some c => .iface 0 (.int .i64 c)
theorem errW_none : errW none = .nilIface := rfl
theorem errW_some (c : Int) : errW (some c) = .iface 0 (.int .i64 c) := rfl

-- the values' own types

end Go.Proofs.YtalfhpghmoikoaaDoor.PRootTells
