/- The value of the row whose transform a row is, by the barycentric sum. -/
import Derived.Test.YtnmjomcpkckihaaM7
namespace Go.Proofs.Ytnmjomcpkckihaa.M
set_option autoImplicit false
set_option linter.unusedVariables false
set_option linter.unusedSimpArgs false

end Go.Proofs.Ytnmjomcpkckihaa.M
