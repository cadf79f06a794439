/- The transform by halves: places turned about; what a stage joins. -/
import Derived.Test.YtnmjomcpkckihaaM9
namespace Go.Proofs.Ytnmjomcpkckihaa.M
set_option autoImplicit false
set_option linter.unusedVariables false
set_option linter.unusedSimpArgs false
section
variable {R : Nat} [NeZero R]
end
end Go.Proofs.Ytnmjomcpkckihaa.M
