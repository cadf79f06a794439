/- Rows of raw words; a row turned by one place; the transform of a product. -/
import Derived.Test.YtnmjomcpkckihaaM10
namespace Go.Proofs.Ytnmjomcpkckihaa.M
set_option autoImplicit false
set_option linter.unusedVariables false
set_option linter.unusedSimpArgs false
/-- A row of words, as they stand. -/
def raw (m : Nat) (g : Nat → Int) : List Int := (List.range m).map g
section
variable {R : Nat} [NeZero R]
end
end Go.Proofs.Ytnmjomcpkckihaa.M
