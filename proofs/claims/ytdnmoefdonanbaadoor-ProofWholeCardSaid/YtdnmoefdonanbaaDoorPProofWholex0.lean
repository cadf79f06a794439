-- Written for this claim by wip/gen/mk.sh, this session's own driver over the kit's print
import Derived.Test.YtdnmoefdonanbaaDoorProg
import Derived.Below
import Derived.Deep.Draws
import Derived.Deep.AppendLies
import Derived.Maps.AppendAt
import Derived.OwnWalk
import Derived.Laws.BytesArg
import Derived.Laws.MakeOwn
import Derived.Laws.OwnMore
import Derived.Deep.OwnRows
import Derived.Tactics
import Derived.Lib.ConvBytes
import Derived.Laws.Slices
import Derived.WalkKit
import Derived.KernelRfl
import Derived.RowKit3
import Derived.Deep.LoopGhost
import Derived.Deep.QuietTactic
import Derived.BigQuiet
import Derived.WideLaws
import Derived.Deep.DeepCutAuto
import Derived.Deep.CutBlock
import Derived.Deep.RegionHeld3
import Derived.Laws.Rows
import Derived.Lib.AppendStr
import Derived.ArgAppend
import Derived.Laws.IdiomCopy
import Derived.OrdersHeld
import Derived.Laws.BitsLemmas
import Derived.RowKit
import Derived.Laws.Externs
import Derived.Test.YtdnmoefdonanbaaDoorWWords
import Derived.Test.YtdnmoefdonanbaaDoorWLast
import Derived.Test.YtdnmoefdonanbaaDoorWTab
import Derived.Test.YtdnmoefdonanbaaDoorWFour
import Derived.Test.YtdnmoefdonanbaaDoorWQPut
import Derived.Test.YtdnmoefdonanbaaDoorWApart
import Derived.Test.YtdnmoefdonanbaaDoorWArr
import Derived.Test.YtdnmoefdonanbaaDoorWZeros
import Derived.Test.YtdnmoefdonanbaaDoorWFoot
import Derived.Test.YtdnmoefdonanbaaDoorWKept
import Derived.Test.YtdnmoefdonanbaaDoorWShare
import Derived.Test.YtdnmoefdonanbaaDoorWN
import Derived.Test.YtdnmoefdonanbaaDoorWFootNe
import Derived.Test.YtdnmoefdonanbaaDoorWAt
import Derived.Test.YtdnmoefdonanbaaDoorWEqStruct
import Derived.Test.YtdnmoefdonanbaaDoorWRepsOne
import Derived.Test.YtdnmoefdonanbaaDoorWInv
import Derived.Test.YtdnmoefdonanbaaDoorWInvWords
import Derived.Test.YtdnmoefdonanbaaDoorWGuard
import Derived.Test.YtdnmoefdonanbaaDoorWNEv
import Derived.Test.YtdnmoefdonanbaaDoorWMore
namespace Go.Proofs.YtdnmoefdonanbaaDoor.PProofWhole
open Go.RowKit Go.Proofs.YtdnmoefdonanbaaDoorW.PrintWords Go.Proofs.YtdnmoefdonanbaaDoorW.PrintLast Go.Proofs.YtdnmoefdonanbaaDoorW.PrintMore
attribute [local go_sem] max2_int min2_int max_two min_two max_three min_three max_four min_four   -- for this text's walks alone
set_option linter.unusedVariables false
set_option linter.unusedSimpArgs false



def errW : Option Int → Value
  | none => .nilIface
  | some c => .iface 0 (.int .i64 c)
theorem errW_none : errW none = .nilIface := rfl
theorem errW_some (c : Int) : errW (some c) = .iface 0 (.int .i64 c) := rfl

theorem info23 : (Tryd.prog.info? 23).map (fun i => (i.zero, i.size, i.bytes)) = some (some (.int .u64 0), 1, 8) := by kernel_rfl
-- the values' own types

end Go.Proofs.YtdnmoefdonanbaaDoor.PProofWhole
