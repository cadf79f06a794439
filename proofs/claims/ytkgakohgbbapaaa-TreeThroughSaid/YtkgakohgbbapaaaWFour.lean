-- Out of the words that the kit's print.sh laid, thinned for this claim by wip/gen/prune_w.py: theorems that nothing here names are left out.
import Derived.Test.YtkgakohgbbapaaaWTab
/-! ### 56. Four, five, six operations that may come up next, in any order -/
namespace Go.Proofs.YtkgakohgbbapaaaW.PrintLast
section
variable {P : Program} {ops : Array Oper} {Q : Exit → Act → World → Prop} {md : Region.Mode} {S : World → Prop} {ds : List Nat} {T : Bool × List (List Nat × List Nat)}
end
end Go.Proofs.YtkgakohgbbapaaaW.PrintLast
