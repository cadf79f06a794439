-- Out of the words that the kit's print.sh laid, thinned for this claim by wip/gen/prune_w.py: theorems that nothing here names are left out.
import Derived.Test.YtdnmoefdonanbaaWInv
import Derived.Test.YtdnmoefdonanbaaWFootNe
namespace Go.Proofs.YtdnmoefdonanbaaW.PrintWords
open Go.RowKit
end Go.Proofs.YtdnmoefdonanbaaW.PrintWords
namespace Go.Proofs.YtdnmoefdonanbaaW.PrintLast
section
variable {ops : Array Oper} {a : Act} {o og : Oper} {g : Nat} {t : Tmp} {u : Bool}
end
end Go.Proofs.YtdnmoefdonanbaaW.PrintLast
