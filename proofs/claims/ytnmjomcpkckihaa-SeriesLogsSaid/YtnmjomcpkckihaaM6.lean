/- Division by a linear polynomial and by any one; derivatives; the polynomial through points. -/
import Derived.Test.YtnmjomcpkckihaaM5
namespace Go.Proofs.Ytnmjomcpkckihaa.M
set_option autoImplicit false
set_option linter.unusedVariables false
set_option linter.unusedSimpArgs false

section
variable {R : Nat} [NeZero R]
end
def der (f : Nat → F) (i : Nat) : F := f (i + 1) * cv ((i + 1 : Nat) : Int)
theorem der_out {n : Nat} {f : Nat → F} (hf : ∀ i, n ≤ i → f i = 0) : ∀ i, n - 1 ≤ i → der f i = 0 := by
  intro i hi; unfold der; rw [hf (i + 1) (by omega)]; exact k _
where k {R : Nat} [NeZero R] (x : Fin R) : 0 * x = 0 := by grind
theorem cv_succ (i : Nat) : cv ((i + 1 : Nat) : Int) = cv (i : Int) + 1 := by
  rw [show (((i + 1 : Nat)) : Int) = (i : Int) + 1 by omega, cv_add, cv_one]
theorem Sm_const (n : Nat) (c : F) : Sm n (fun _ => c) = c * cv (n : Int) := by
  induction n with
  | zero => rw [Sm_zero, show cv ((0 : Nat) : Int) = 0 from rfl]; exact k0 c
  | succ n ih => rw [Sm_succ, ih, cv_succ]; exact k1 _ _
where
  k0 {R : Nat} [NeZero R] (c : Fin R) : 0 = c * 0 := by grind
  k1 {R : Nat} [NeZero R] (c x : Fin R) : c * x + c = c * (x + 1) := by grind
/-- The rule of products. -/
theorem der_cvl (f g : Nat → F) (k : Nat) : der (cvl f g) k = cvl (der f) g k + cvl f (der g) k := by
  have h1 : cvl (der f) g k = Sm (k + 2) (fun i => cv (i : Int) * (f i * g (k + 1 - i))) := by
    rw [Sm_first, show cv ((0 : Nat) : Int) = 0 from rfl]
    unfold cvl
    rw [k1]
    refine Sm_congr (fun i hi => ?_)
    unfold der
    rw [show k + 1 - (i + 1) = k - i by omega]; exact k2 _ _ _
  have h2 : cvl f (der g) k = Sm (k + 2) (fun i => cv ((k + 1 - i : Nat) : Int) * (f i * g (k + 1 - i))) := by
    rw [Sm_succ, show k + 1 - (k + 1) = 0 by omega, show cv ((0 : Nat) : Int) = 0 from rfl]
    unfold cvl
    rw [k3]
    refine Sm_congr (fun i hi => ?_)
    unfold der
    rw [show k - i + 1 = k + 1 - i by omega]; exact k4 _ _ _
  rw [h1, h2, ← Sm_add]
  unfold der cvl
  rw [← Sm_mul_right]
  refine Sm_congr (fun i hi => ?_)
  have : (((k + 1 : Nat)) : Int) = (i : Int) + ((k + 1 - i : Nat) : Int) := by omega
  rw [this, cv_add]; exact k5 _ _ _
where
  k1 {R : Nat} [NeZero R] {a s : Fin R} : 0 * a + s = s := by grind
  k2 {R : Nat} [NeZero R] (a c b : Fin R) : a * c * b = c * (a * b) := by grind
  k3 {R : Nat} [NeZero R] {a s : Fin R} : s + 0 * a = s := by grind
  k4 {R : Nat} [NeZero R] (a b c : Fin R) : a * (b * c) = c * (a * b) := by grind
  k5 {R : Nat} [NeZero R] (a c d : Fin R) : a * (c + d) = c * a + d * a := by grind
end Go.Proofs.Ytnmjomcpkckihaa.M
