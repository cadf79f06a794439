-- Out of the words that the kit's print.sh laid, thinned for this claim by wip/gen/prune_w.py: theorems that nothing here names are left out.
import Derived.Test.YtkgakohgbbapaaaWN
/-! ### 52. A row that stays read whatever happens to a block (a set of blocks) doesn't lie there -/
namespace Go.Proofs.YtkgakohgbbapaaaW.PrintWords
open Go.RowKit
namespace Kd
section
variable {α : Type} {d : Kd α} {W : World} {g n : Nat} {S ok : Nat → Prop} {A : Option Addr} {ad : Addr} {xs : List α}
end
end Kd
end Go.Proofs.YtkgakohgbbapaaaW.PrintWords
