/- Division by a linear polynomial and by any one; derivatives; the polynomial through points. -/
import Derived.Test.YtnmjomcpkckihaaM5
namespace Go.Proofs.Ytnmjomcpkckihaa.M
set_option autoImplicit false
set_option linter.unusedVariables false
set_option linter.unusedSimpArgs false

section
variable {R : Nat} [NeZero R]
end
theorem cv_succ (i : Nat) : cv ((i + 1 : Nat) : Int) = cv (i : Int) + 1 := by
  rw [show (((i + 1 : Nat)) : Int) = (i : Int) + 1 by omega, cv_add, cv_one]
theorem Sm_const (n : Nat) (c : F) : Sm n (fun _ => c) = c * cv (n : Int) := by
  induction n with
  | zero => rw [Sm_zero, show cv ((0 : Nat) : Int) = 0 from rfl]; exact k0 c
  | succ n ih => rw [Sm_succ, ih, cv_succ]; exact k1 _ _
where
  k0 {R : Nat} [NeZero R] (c : Fin R) : 0 = c * 0 := by grind
  k1 {R : Nat} [NeZero R] (c x : Fin R) : c * x + c = c * (x + 1) := by grind
end Go.Proofs.Ytnmjomcpkckihaa.M
