-- Out of the words that the kit's print.sh laid, thinned for this claim by wip/gen/prune_w.py: theorems that nothing here names are left out.
import Derived.Test.YtkgakohgbbapaaaWWords
import Derived.Laws.StructEq
/-! ### 53. '==' of structs as_ one Bool -/
namespace Go.Proofs.YtkgakohgbbapaaaW.PrintWords
open Go.RowKit
section
variable {P : Program} {d : Nat} {xs ys : Array Value} {f : Field} {fs : List Field} {a b : Value} {r s : Bool} {w : World}
end
end Go.Proofs.YtkgakohgbbapaaaW.PrintWords
