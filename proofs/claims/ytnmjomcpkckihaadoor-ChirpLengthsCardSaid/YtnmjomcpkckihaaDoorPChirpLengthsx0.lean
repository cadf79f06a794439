-- Written for this claim by wip/gen/mk.sh, this session's own driver over the kit's print
import Derived.Test.YtnmjomcpkckihaaDoorProg
import Derived.Below
import Derived.Deep.Draws
import Derived.Deep.AppendLies
import Derived.Maps.AppendAt
import Derived.OwnWalk
import Derived.Laws.BytesArg
import Derived.Laws.MakeOwn
import Derived.Laws.OwnMore
import Derived.Deep.OwnRows
import Derived.Tactics
import Derived.Lib.ConvBytes
import Derived.Laws.Slices
import Derived.WalkKit
import Derived.KernelRfl
import Derived.RowKit3
import Derived.Deep.LoopGhost
import Derived.Deep.QuietTactic
import Derived.BigQuiet
import Derived.WideLaws
import Derived.Deep.DeepCutAuto
import Derived.Deep.CutBlock
import Derived.Deep.RegionHeld3
import Derived.Laws.Rows
import Derived.Lib.AppendStr
import Derived.ArgAppend
import Derived.Laws.IdiomCopy
import Derived.OrdersHeld
import Derived.Laws.BitsLemmas
import Derived.RowKit
import Derived.Laws.Externs
import Derived.Laws.CopyOwn
import Derived.Deep.QuietTactic
import Derived.BigQuiet
import Derived.BigRegion
import Derived.Deep.RegionHeld3
import Derived.Deep.CutRange
import Derived.Test.YtnmjomcpkckihaaDoorWWords
import Derived.Test.YtnmjomcpkckihaaDoorWLast
import Derived.Test.YtnmjomcpkckihaaDoorWTab
import Derived.Test.YtnmjomcpkckihaaDoorWFour
import Derived.Test.YtnmjomcpkckihaaDoorWQPut
import Derived.Test.YtnmjomcpkckihaaDoorWApart
import Derived.Test.YtnmjomcpkckihaaDoorWArr
import Derived.Test.YtnmjomcpkckihaaDoorWZeros
import Derived.Test.YtnmjomcpkckihaaDoorWFoot
import Derived.Test.YtnmjomcpkckihaaDoorWKept
import Derived.Test.YtnmjomcpkckihaaDoorWShare
import Derived.Test.YtnmjomcpkckihaaDoorWN
import Derived.Test.YtnmjomcpkckihaaDoorWFootNe
import Derived.Test.YtnmjomcpkckihaaDoorWAt
import Derived.Test.YtnmjomcpkckihaaDoorWEqStruct
import Derived.Test.YtnmjomcpkckihaaDoorWRepsOne
import Derived.Test.YtnmjomcpkckihaaDoorWInv
import Derived.Test.YtnmjomcpkckihaaDoorWInvWords
import Derived.Test.YtnmjomcpkckihaaDoorWGuard
import Derived.Test.YtnmjomcpkckihaaDoorWNEv
import Derived.Test.YtnmjomcpkckihaaDoorWMore
namespace Go.Proofs.YtnmjomcpkckihaaDoor.PChirpLengths
open Go.RowKit Go.Proofs.YtnmjomcpkckihaaDoorW.PrintWords Go.Proofs.YtnmjomcpkckihaaDoorW.PrintLast Go.Proofs.YtnmjomcpkckihaaDoorW.PrintMore
attribute [local go_sem] max2_int min2_int max_two min_two max_three min_three max_four min_four   -- for this text's walks alone
set_option linter.unusedVariables false
set_option linter.unusedSimpArgs false



def errW : Option Int → Value
  | none => .nilIface
  | some c => .iface 0 (.int .i64 c)
theorem errW_none : errW none = .nilIface := rfl
theorem errW_some (c : Int) : errW (some c) = .iface 0 (.int .i64 c) := rfl

theorem info23 : (Tryd.prog.info? 23).map (fun i => (i.zero, i.size, i.bytes)) = some (some (.int .u64 0), 1, 8) := by kernel_rfl
-- the values' own types

end Go.Proofs.YtnmjomcpkckihaaDoor.PChirpLengths
