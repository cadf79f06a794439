-- Written for this claim by wip/gen/mk.sh, this session's own driver over the kit's print
import Derived.Test.YtalfhpghmoikoaaProg
import Derived.Below
import Derived.Deep.Draws
import Derived.Deep.AppendLies
import Derived.Maps.AppendAt
import Derived.OwnWalk
import Derived.Laws.BytesArg
import Derived.Laws.MakeOwn
import Derived.Laws.OwnMore
import Derived.Deep.OwnRows
import Derived.Tactics
import Derived.Lib.ConvBytes
import Derived.Laws.Slices
import Derived.WalkKit
import Derived.KernelRfl
import Derived.RowKit3
import Derived.Deep.LoopGhost
import Derived.Deep.QuietTactic
import Derived.BigQuiet
import Derived.WideLaws
import Derived.Deep.DeepCutAuto
import Derived.Deep.CutBlock
import Derived.Deep.RegionHeld3
import Derived.Laws.Rows
import Derived.Lib.AppendStr
import Derived.ArgAppend
import Derived.Laws.IdiomCopy
import Derived.OrdersHeld
import Derived.Laws.BitsLemmas
import Derived.RowKit
import Derived.Laws.Externs
import Derived.Test.YtalfhpghmoikoaaWWords
import Derived.Test.YtalfhpghmoikoaaWLast
import Derived.Test.YtalfhpghmoikoaaWTab
import Derived.Test.YtalfhpghmoikoaaWFour
import Derived.Test.YtalfhpghmoikoaaWQPut
import Derived.Test.YtalfhpghmoikoaaWApart
import Derived.Test.YtalfhpghmoikoaaWArr
import Derived.Test.YtalfhpghmoikoaaWZeros
import Derived.Test.YtalfhpghmoikoaaWFoot
import Derived.Test.YtalfhpghmoikoaaWKept
import Derived.Test.YtalfhpghmoikoaaWShare
import Derived.Test.YtalfhpghmoikoaaWN
import Derived.Test.YtalfhpghmoikoaaWFootNe
import Derived.Test.YtalfhpghmoikoaaWAt
import Derived.Test.YtalfhpghmoikoaaWEqStruct
import Derived.Test.YtalfhpghmoikoaaWRepsOne
import Derived.Test.YtalfhpghmoikoaaWInv
import Derived.Test.YtalfhpghmoikoaaWInvWords
import Derived.Test.YtalfhpghmoikoaaWGuard
import Derived.Test.YtalfhpghmoikoaaWNEv
import Derived.Test.YtalfhpghmoikoaaWMore
namespace Go.Proofs.Ytalfhpghmoikoaa.PGoldReduces
open Go.RowKit Go.Proofs.YtalfhpghmoikoaaW.PrintWords Go.Proofs.YtalfhpghmoikoaaW.PrintLast Go.Proofs.YtalfhpghmoikoaaW.PrintMore
attribute [local go_sem] max2_int min2_int max_two min_two max_three min_three max_four min_four   -- for this text's walks alone
set_option linter.unusedVariables false
set_option linter.unusedSimpArgs false



def errW : Option Int → Value
  | none => .nilIface
  | some c => .iface 0 (.int .i64 c)
theorem errW_none : errW none = .nilIface := rfl
theorem errW_some (c : Int) : errW (some c) = .iface 0 (.int .i64 c) := rfl

-- the values' own types

end Go.Proofs.Ytalfhpghmoikoaa.PGoldReduces
