/- The transform by halves: places turned about; what a stage joins. -/
import Derived.Test.YtnmjomcpkckihaaDoorM9
namespace Go.Proofs.YtnmjomcpkckihaaDoor.M
set_option autoImplicit false
set_option linter.unusedVariables false
set_option linter.unusedSimpArgs false
/-- A place of k bits, its bits turned about. -/
def rvm : Nat → Nat → Nat
  | 0, _ => 0
  | k + 1, i => i % 2 * 2 ^ k + rvm k (i / 2)
theorem rvm_lt : ∀ (k i : Nat), rvm k i < 2 ^ k
  | 0, _ => by unfold rvm; omega
  | k + 1, i => by
    unfold rvm
    have h := rvm_lt k (i / 2)
    rcases Nat.mod_two_eq_zero_or_one i with e | e
    · rw [e, Nat.pow_succ]; omega
    · rw [e, Nat.pow_succ]; omega
/-- Turned about from the other end. -/
theorem rvm_top : ∀ (k i b : Nat), i < 2 ^ k → b < 2 → rvm (k + 1) (b * 2 ^ k + i) = 2 * rvm k i + b
  | 0, i, b, hi, hb => by
    obtain rfl : i = 0 := by omega
    show (b * 2 ^ 0 + 0) % 2 * 2 ^ 0 + rvm 0 _ = 2 * rvm 0 0 + b
    unfold rvm
    omega
  | k + 1, i, b, hi, hb => by
    have ih := rvm_top k (i / 2) b (by rw [Nat.pow_succ] at hi; omega) hb
    have e0 : b * 2 ^ (k + 1) = 2 * (b * 2 ^ k) := by rw [Nat.pow_succ, ← Nat.mul_assoc, Nat.mul_comm]
    have e1 : (b * 2 ^ (k + 1) + i) % 2 = i % 2 := by omega
    have e2 : (b * 2 ^ (k + 1) + i) / 2 = b * 2 ^ k + i / 2 := by omega
    show (b * 2 ^ (k + 1) + i) % 2 * 2 ^ (k + 1) + rvm (k + 1) ((b * 2 ^ (k + 1) + i) / 2) = 2 * (i % 2 * 2 ^ k + rvm k (i / 2)) + b
    rw [e1, e2, ih, Nat.pow_succ]
    rcases Nat.mod_two_eq_zero_or_one i with e | e <;> rw [e] <;> omega
theorem rvm_rvm : ∀ (k i : Nat), i < 2 ^ k → rvm k (rvm k i) = i
  | 0, i, hi => by show 0 = i; omega
  | k + 1, i, hi => by
    show rvm (k + 1) (i % 2 * 2 ^ k + rvm k (i / 2)) = i
    rw [rvm_top k _ _ (rvm_lt k _) (Nat.mod_lt _ (by omega)), rvm_rvm k (i / 2) (by rw [Nat.pow_succ] at hi; omega)]
    omega
section
variable {R : Nat} [NeZero R]
theorem Sm_halves (n : Nat) (f : Nat → Fin R) : Sm (2 * n) f = Sm n (fun s => f (2 * s)) + Sm n (fun s => f (2 * s + 1)) := by
  induction n with
  | zero => exact k0
  | succ n ih =>
    rw [show 2 * (n + 1) = 2 * n + 1 + 1 by omega, Sm_succ, Sm_succ, Sm_succ, Sm_succ, ih]
    exact k1 _ _ _ _
where
  k0 : (0 : Fin R) = 0 + 0 := by grind
  k1 (a b c d : Fin R) : a + b + c + d = a + c + (b + d) := by grind
theorem pow_two_mul (x : Fin R) (s : Nat) : x ^ (2 * s) = (x * x) ^ s := by
  rw [pow_mul' x 2 s]; congr 1; exact k x
where k (x : Fin R) : x ^ 2 = x * x := by grind
theorem pow_two_mul1 (x : Fin R) (s : Nat) : x ^ (2 * s + 1) = (x * x) ^ s * x := by
  rw [pow_add' x (2 * s) 1, pow_two_mul]; congr 1; exact k x
where k (x : Fin R) : x ^ 1 = x := by grind
theorem halves_sum (n : Nat) (x : Fin R) (f : Nat → Fin R) :
    Sm (2 * n) (fun t => f t * x ^ t) = Sm n (fun s => f (2 * s) * (x * x) ^ s) + Sm n (fun s => f (2 * s + 1) * (x * x) ^ s) * x := by
  rw [Sm_halves, ← Sm_mul_right]
  congr 1
  · exact Sm_congr (fun s _ => by rw [pow_two_mul])
  · exact Sm_congr (fun s _ => by rw [pow_two_mul1]; exact k _ _ _)
where k (a b c : Fin R) : a * (b * c) = a * b * c := by grind
end
/-- The row behind j stages. -/
def hv (k : Nat) (w : F) (x : Nat → F) (j p : Nat) : F := dft (2 ^ j) (w ^ (2 ^ (k - j))) (fun t => x (rvm (k - j) (p / 2 ^ j) + 2 ^ (k - j) * t)) (p % 2 ^ j)
theorem hv_start (k : Nat) (w : F) (x : Nat → F) {p : Nat} (hp : p < 2 ^ k) : hv k w x 0 p = x (rvm k p) := by
  unfold hv dft
  show 0 + x (rvm (k - 0) (p / 2 ^ 0) + 2 ^ (k - 0) * 0) * _ ^ 0 = _
  rw [Nat.sub_zero, Nat.pow_zero, Nat.div_one, Nat.mul_zero, Nat.add_zero]
  exact kk _ _
where kk {R : Nat} [NeZero R] (a b : Fin R) : 0 + a * b ^ 0 = a := by grind
theorem hv_end (k : Nat) (w : F) (x : Nat → F) {p : Nat} (hp : p < 2 ^ k) : hv k w x k p = dft (2 ^ k) w x p := by
  unfold hv
  rw [Nat.sub_self, Nat.mod_eq_of_lt hp, Nat.div_eq_of_lt hp]
  have e : w ^ (2 ^ 0) = w := kk w
  rw [e]
  refine dft_congr (fun t _ => ?_) p
  show x (0 + 2 ^ 0 * t) = x t
  rw [Nat.pow_zero, Nat.one_mul, Nat.zero_add]
where kk {R : Nat} [NeZero R] (a : Fin R) : a ^ (2 ^ 0) = a := by
        rw [Nat.pow_zero]; grind
/-- What a stage joins: places of one half, and of the other. -/
theorem hv_step {k j : Nat} (hj : j < k) {w : F} (hw : w ^ (2 ^ (k - 1)) = -1) (x : Nat → F) (c i : Nat) (hi : i < 2 ^ j) :
    hv k w x (j + 1) (c * (2 * 2 ^ j) + i) = hv k w x j (c * (2 * 2 ^ j) + i) + hv k w x j (c * (2 * 2 ^ j) + 2 ^ j + i) * w ^ (i * 2 ^ (k - j - 1)) ∧
    hv k w x (j + 1) (c * (2 * 2 ^ j) + 2 ^ j + i) = hv k w x j (c * (2 * 2 ^ j) + i) - hv k w x j (c * (2 * 2 ^ j) + 2 ^ j + i) * w ^ (i * 2 ^ (k - j - 1)) := by
  obtain ⟨m, rfl⟩ : ∃ m, k = j + m + 1 := ⟨k - j - 1, by omega⟩
  have s1 : j + m + 1 - (j + 1) = m := by omega
  have s2 : j + m + 1 - j = m + 1 := by omega
  have s3 : j + m + 1 - j - 1 = m := by omega
  have s4 : j + m + 1 - 1 = m + j := by omega
  have hp := Nat.two_pow_pos j
  have hq : 2 ^ (j + 1) = 2 * 2 ^ j := by rw [Nat.pow_succ]; omega
  rw [s3]
  rw [s4] at hw
  -- the places
  have d0 : (c * (2 * 2 ^ j) + i) / 2 ^ j = 2 * c := by
    rw [show c * (2 * 2 ^ j) + i = i + 2 ^ j * (2 * c) by rw [Nat.mul_comm c, Nat.mul_assoc, Nat.mul_left_comm]; omega, Nat.add_mul_div_left _ _ hp, Nat.div_eq_of_lt hi]; omega
  have m0 : (c * (2 * 2 ^ j) + i) % 2 ^ j = i := by
    rw [show c * (2 * 2 ^ j) + i = i + 2 ^ j * (2 * c) by rw [Nat.mul_comm c, Nat.mul_assoc, Nat.mul_left_comm]; omega, Nat.add_mul_mod_self_left, Nat.mod_eq_of_lt hi]
  have d1 : (c * (2 * 2 ^ j) + 2 ^ j + i) / 2 ^ j = 2 * c + 1 := by
    rw [show c * (2 * 2 ^ j) + 2 ^ j + i = i + 2 ^ j * (2 * c + 1) by rw [Nat.mul_comm c, Nat.mul_assoc, Nat.mul_left_comm, Nat.mul_add]; omega, Nat.add_mul_div_left _ _ hp, Nat.div_eq_of_lt hi]; omega
  have m1 : (c * (2 * 2 ^ j) + 2 ^ j + i) % 2 ^ j = i := by
    rw [show c * (2 * 2 ^ j) + 2 ^ j + i = i + 2 ^ j * (2 * c + 1) by rw [Nat.mul_comm c, Nat.mul_assoc, Nat.mul_left_comm, Nat.mul_add]; omega, Nat.add_mul_mod_self_left, Nat.mod_eq_of_lt hi]
  have D0 : (c * (2 * 2 ^ j) + i) / 2 ^ (j + 1) = c := by
    rw [hq, show c * (2 * 2 ^ j) + i = i + 2 * 2 ^ j * c by rw [Nat.mul_comm c]; omega, Nat.add_mul_div_left _ _ (by omega), Nat.div_eq_of_lt (by omega)]; omega
  have M0 : (c * (2 * 2 ^ j) + i) % 2 ^ (j + 1) = i := by
    rw [hq, show c * (2 * 2 ^ j) + i = i + 2 * 2 ^ j * c by rw [Nat.mul_comm c]; omega, Nat.add_mul_mod_self_left, Nat.mod_eq_of_lt (by omega)]
  have D1 : (c * (2 * 2 ^ j) + 2 ^ j + i) / 2 ^ (j + 1) = c := by
    rw [hq, show c * (2 * 2 ^ j) + 2 ^ j + i = (2 ^ j + i) + 2 * 2 ^ j * c by rw [Nat.mul_comm c]; omega, Nat.add_mul_div_left _ _ (by omega), Nat.div_eq_of_lt (by omega)]; omega
  have M1 : (c * (2 * 2 ^ j) + 2 ^ j + i) % 2 ^ (j + 1) = 2 ^ j + i := by
    rw [hq, show c * (2 * 2 ^ j) + 2 ^ j + i = (2 ^ j + i) + 2 * 2 ^ j * c by rw [Nat.mul_comm c]; omega, Nat.add_mul_mod_self_left, Nat.mod_eq_of_lt (by omega)]
  -- the rows
  have r0 : rvm (m + 1) (2 * c) = rvm m c := by
    show 2 * c % 2 * 2 ^ m + rvm m (2 * c / 2) = _
    rw [Nat.mul_mod_right, Nat.zero_mul, Nat.zero_add, Nat.mul_div_cancel_left _ (by omega)]
  have r1 : rvm (m + 1) (2 * c + 1) = 2 ^ m + rvm m c := by
    show (2 * c + 1) % 2 * 2 ^ m + rvm m ((2 * c + 1) / 2) = _
    rw [show (2 * c + 1) % 2 = 1 by omega, show (2 * c + 1) / 2 = c by omega, Nat.one_mul]
  have W2 : w ^ 2 ^ (m + 1) = w ^ 2 ^ m * w ^ 2 ^ m := by rw [Nat.pow_succ, Nat.mul_comm, pow_two_mul, mul_pow']
  have E0 : hv (j + m + 1) w x j (c * (2 * 2 ^ j) + i) = Sm (2 ^ j) (fun s => x (rvm m c + 2 ^ m * (2 * s)) * ((w ^ 2 ^ m) ^ i * (w ^ 2 ^ m) ^ i) ^ s) := by
    unfold hv dft
    rw [d0, m0, s2, r0]
    refine Sm_congr (fun s _ => ?_)
    show x (rvm m c + 2 ^ (m + 1) * s) * _ = _
    rw [W2, mul_pow', show 2 ^ (m + 1) * s = 2 ^ m * (2 * s) by rw [Nat.pow_succ, Nat.mul_assoc]]
  have E1 : hv (j + m + 1) w x j (c * (2 * 2 ^ j) + 2 ^ j + i) = Sm (2 ^ j) (fun s => x (rvm m c + 2 ^ m * (2 * s + 1)) * ((w ^ 2 ^ m) ^ i * (w ^ 2 ^ m) ^ i) ^ s) := by
    unfold hv dft
    rw [d1, m1, s2, r1]
    refine Sm_congr (fun s _ => ?_)
    show x (2 ^ m + rvm m c + 2 ^ (m + 1) * s) * _ = _
    rw [W2, mul_pow', show 2 ^ m + rvm m c + 2 ^ (m + 1) * s = rvm m c + 2 ^ m * (2 * s + 1) by rw [Nat.pow_succ, Nat.mul_assoc, Nat.mul_add]; omega]
  have Ea : ∀ y : F, hv (j + m + 1) w x (j + 1) (c * (2 * 2 ^ j) + i) = Sm (2 * 2 ^ j) (fun t => x (rvm m c + 2 ^ m * t) * ((w ^ 2 ^ m) ^ i) ^ t) := fun _ => by
    unfold hv dft
    rw [D0, M0, s1, hq]
  have Eb : ∀ y : F, hv (j + m + 1) w x (j + 1) (c * (2 * 2 ^ j) + 2 ^ j + i) = Sm (2 * 2 ^ j) (fun t => x (rvm m c + 2 ^ m * t) * ((w ^ 2 ^ m) ^ (2 ^ j + i)) ^ t) := fun _ => by
    unfold hv dft
    rw [D1, M1, s1, hq]
  have neg : ((w ^ 2 ^ m) ^ (2 ^ j + i) : F) = (-((w ^ 2 ^ m) ^ i) : F) := by
    rw [pow_add', ← pow_mul', ← Nat.pow_add, hw]
    exact k3 _
  have pw : w ^ (i * 2 ^ m) = (w ^ 2 ^ m) ^ i := by rw [Nat.mul_comm, pow_mul']
  rw [pw, E0, E1, Ea 0, Eb 0, neg, halves_sum, halves_sum, k4]
  exact ⟨rfl, k5 _ _ _⟩
where
  k3 {R : Nat} [NeZero R] (a : Fin R) : -1 * a = -a := by grind
  k4 {R : Nat} [NeZero R] (a : Fin R) : -a * -a = a * a := by grind
  k5 {R : Nat} [NeZero R] (a b c : Fin R) : a + b * -c = a - b * c := by grind
end Go.Proofs.YtnmjomcpkckihaaDoor.M
