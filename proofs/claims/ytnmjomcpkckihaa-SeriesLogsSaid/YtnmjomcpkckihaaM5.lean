/- The polynomial of given roots. -/
import Derived.Test.YtnmjomcpkckihaaM4
namespace Go.Proofs.Ytnmjomcpkckihaa.M
set_option autoImplicit false
set_option linter.unusedVariables false
set_option linter.unusedSimpArgs false

def one (i : Nat) : F := if i = 0 then 1 else 0
end Go.Proofs.Ytnmjomcpkckihaa.M
