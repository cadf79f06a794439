/- Roots of unity of orders that are powers of two. -/
import Derived.Test.YtnmjomcpkckihaaM2
namespace Go.Proofs.Ytnmjomcpkckihaa.M
set_option autoImplicit false
set_option linter.unusedVariables false
set_option linter.unusedSimpArgs false

def rt (k : Nat) : F := cv 7 ^ (18446744069414584320 / 2 ^ k)
theorem part_mul {k : Nat} (h : k ≤ 32) : 18446744069414584320 / 2 ^ k * 2 ^ k = 18446744069414584320 := by
  have key : ∀ k, k < 33 → 18446744069414584320 / 2 ^ k * 2 ^ k = 18446744069414584320 := by decide
  exact key k (by omega)
theorem part_pos {k : Nat} (h : k ≤ 32) : 0 < 18446744069414584320 / 2 ^ k := by
  have := part_mul h
  rcases Nat.eq_zero_or_pos (18446744069414584320 / 2 ^ k) with e | e
  · rw [e, Nat.zero_mul] at this; omega
  · exact e
theorem rt_pow_full {k : Nat} (h : k ≤ 32) : rt k ^ (2 ^ k) = 1 := by
  unfold rt; rw [← pow_mul', part_mul h, g_full]
theorem rt_zero : rt 0 = 1 := by have := rt_pow_full (k := 0) (by omega); rw [Nat.pow_zero] at this; grind
theorem rt_ne_zero (k : Nat) : rt k ≠ 0 := g_pow_ne _
theorem rt_order {k m : Nat} (h : k ≤ 32) (h0 : 0 < m) (h1 : m < 2 ^ k) : rt k ^ m ≠ 1 := by
  unfold rt; rw [← pow_mul']
  refine g_order _ (Nat.mul_pos (part_pos h) h0) ?_
  have := Nat.mul_lt_mul_of_pos_left h1 (part_pos h)
  rw [part_mul h] at this
  exact this
theorem rt_sq {k : Nat} (h : k < 32) : rt (k + 1) * rt (k + 1) = rt k := by
  have e1 := part_mul (k := k) (by omega)
  have e2 := part_mul (k := k + 1) (by omega)
  unfold rt; rw [← pow_add']; congr 1
  rw [Nat.pow_succ] at e2
  have hp : 0 < 2 ^ k := Nat.two_pow_pos k
  apply Nat.eq_of_mul_eq_mul_right hp
  rw [e1, Nat.pow_succ, ← e2]
  grind
theorem rt_pow_two {k j : Nat} (h : k + j ≤ 32) : rt (k + j) ^ (2 ^ j) = rt k := by
  induction j with
  | zero => rw [Nat.pow_zero, Nat.add_zero]; grind
  | succ j ih =>
    rw [Nat.pow_succ, Nat.mul_comm, pow_mul', show k + (j + 1) = k + j + 1 by omega]
    rw [show rt (k + j + 1) ^ 2 = rt (k + j + 1) * rt (k + j + 1) by grind, rt_sq (by omega)]
    exact ih (by omega)
theorem rt_pow_mod {k : Nat} (h : k ≤ 32) (m : Nat) : rt k ^ m = rt k ^ (m % 2 ^ k) := by
  have e : m = 2 ^ k * (m / 2 ^ k) + m % 2 ^ k := (Nat.div_add_mod m (2 ^ k)).symm
  have e2 : rt k ^ (2 ^ k * (m / 2 ^ k) + m % 2 ^ k) = rt k ^ (m % 2 ^ k) := by
    rw [pow_add', pow_mul', rt_pow_full h, one_pow']; grind
  rw [← e] at e2; exact e2
theorem rt_pow_one_iff {k : Nat} (h : k ≤ 32) (m : Nat) : rt k ^ m = 1 ↔ m % 2 ^ k = 0 := by
  constructor
  · intro e
    rw [rt_pow_mod h] at e
    rcases Nat.eq_zero_or_pos (m % 2 ^ k) with h0 | h0
    · exact h0
    · exact absurd e (rt_order h h0 (Nat.mod_lt _ (Nat.two_pow_pos k)))
  · intro e; rw [rt_pow_mod h, e]; grind
theorem rt_one : rt 1 = -1 := by
  have h1 : rt 1 * rt 1 = 1 := by have := rt_sq (k := 0) (by omega); rw [rt_zero] at this; exact this
  have h2 : rt 1 ≠ 1 := by have := rt_order (k := 1) (m := 1) (by omega) (by omega) (by decide); intro e; exact this (by rw [e]; grind)
  have h3 : (rt 1 - 1) * (rt 1 + 1) = 0 := by grind
  rcases mul_eq_zero.1 h3 with e | e
  · exact absurd (by grind) h2
  · grind
theorem rt_half {k : Nat} (h : k < 32) : rt (k + 1) ^ (2 ^ k) = -1 := by
  have := rt_pow_two (k := 1) (j := k) (by omega)
  rw [Nat.add_comm 1 k, rt_one] at this; exact this
theorem sub_self' {n : Nat} [NeZero n] (x : Fin n) : x - x = 0 := by grind
theorem eq_of_sub {n : Nat} [NeZero n] {x y : Fin n} (h : x - y = 0) : x = y := by grind
/-- The sum of a geometric row. -/
theorem geo {n : Nat} [NeZero n] (x : Fin n) (m : Nat) : (x - 1) * Sm m (fun i => x ^ i) = x ^ m - 1 := by
  induction m with
  | zero => simp only [Sm_zero]; grind
  | succ m ih => rw [Sm_succ]; grind
theorem geo_zero {x : F} {m : Nat} (h1 : x ≠ 1) (hm : x ^ m = 1) : Sm m (fun i => x ^ i) = 0 := by
  have := geo x m
  rw [hm] at this
  have h0 : (x - 1) * Sm m (fun i => x ^ i) = 0 := by rw [this]; exact sub_self' 1
  rcases mul_eq_zero.1 h0 with e | e
  · exact absurd (eq_of_sub e) h1
  · exact e
end Go.Proofs.Ytnmjomcpkckihaa.M
