/- Roots of unity of orders that are powers of two. -/
import Derived.Test.YtnmjomcpkckihaaDoorM2
namespace Go.Proofs.YtnmjomcpkckihaaDoor.M
set_option autoImplicit false
set_option linter.unusedVariables false
set_option linter.unusedSimpArgs false

def rt (k : Nat) : F := cv 7 ^ (18446744069414584320 / 2 ^ k)
theorem part_mul {k : Nat} (h : k ≤ 32) : 18446744069414584320 / 2 ^ k * 2 ^ k = 18446744069414584320 := by
  have key : ∀ k, k < 33 → 18446744069414584320 / 2 ^ k * 2 ^ k = 18446744069414584320 := by decide
  exact key k (by omega)
theorem part_pos {k : Nat} (h : k ≤ 32) : 0 < 18446744069414584320 / 2 ^ k := by
  have := part_mul h
  rcases Nat.eq_zero_or_pos (18446744069414584320 / 2 ^ k) with e | e
  · rw [e, Nat.zero_mul] at this; omega
  · exact e
theorem rt_pow_full {k : Nat} (h : k ≤ 32) : rt k ^ (2 ^ k) = 1 := by
  unfold rt; rw [← pow_mul', part_mul h, g_full]
theorem rt_zero : rt 0 = 1 := by have := rt_pow_full (k := 0) (by omega); rw [Nat.pow_zero] at this; grind
theorem rt_ne_zero (k : Nat) : rt k ≠ 0 := g_pow_ne _
theorem rt_order {k m : Nat} (h : k ≤ 32) (h0 : 0 < m) (h1 : m < 2 ^ k) : rt k ^ m ≠ 1 := by
  unfold rt; rw [← pow_mul']
  refine g_order _ (Nat.mul_pos (part_pos h) h0) ?_
  have := Nat.mul_lt_mul_of_pos_left h1 (part_pos h)
  rw [part_mul h] at this
  exact this
theorem rt_sq {k : Nat} (h : k < 32) : rt (k + 1) * rt (k + 1) = rt k := by
  have e1 := part_mul (k := k) (by omega)
  have e2 := part_mul (k := k + 1) (by omega)
  unfold rt; rw [← pow_add']; congr 1
  rw [Nat.pow_succ] at e2
  have hp : 0 < 2 ^ k := Nat.two_pow_pos k
  apply Nat.eq_of_mul_eq_mul_right hp
  rw [e1, Nat.pow_succ, ← e2]
  grind
theorem rt_pow_two {k j : Nat} (h : k + j ≤ 32) : rt (k + j) ^ (2 ^ j) = rt k := by
  induction j with
  | zero => rw [Nat.pow_zero, Nat.add_zero]; grind
  | succ j ih =>
    rw [Nat.pow_succ, Nat.mul_comm, pow_mul', show k + (j + 1) = k + j + 1 by omega]
    rw [show rt (k + j + 1) ^ 2 = rt (k + j + 1) * rt (k + j + 1) by grind, rt_sq (by omega)]
    exact ih (by omega)
theorem rt_pow_inj {k i j : Nat} (h : k ≤ 32) (hi : i < 2 ^ k) (hj : j < 2 ^ k) (e : rt k ^ i = rt k ^ j) : i = j := by
  have key : ∀ i j : Nat, i < j → j < 2 ^ k → rt k ^ i = rt k ^ j → False := by
    intro i j hij hj e
    refine rt_order h (m := j - i) (by omega) (by omega) ?_
    have e2 : rt k ^ j = rt k ^ i * rt k ^ (j - i) := by rw [← pow_add']; congr 1; omega
    rw [e2] at e
    refine cancel (pow_ne_zero (rt_ne_zero k) i) ?_
    rw [← e]; grind
  rcases Nat.lt_trichotomy i j with h1 | h1 | h1
  · exact (key i j h1 hj e).elim
  · exact h1
  · exact (key j i h1 hi e.symm).elim
theorem rt_pow_mod {k : Nat} (h : k ≤ 32) (m : Nat) : rt k ^ m = rt k ^ (m % 2 ^ k) := by
  have e : m = 2 ^ k * (m / 2 ^ k) + m % 2 ^ k := (Nat.div_add_mod m (2 ^ k)).symm
  have e2 : rt k ^ (2 ^ k * (m / 2 ^ k) + m % 2 ^ k) = rt k ^ (m % 2 ^ k) := by
    rw [pow_add', pow_mul', rt_pow_full h, one_pow']; grind
  rw [← e] at e2; exact e2
theorem rt_pow_one_iff {k : Nat} (h : k ≤ 32) (m : Nat) : rt k ^ m = 1 ↔ m % 2 ^ k = 0 := by
  constructor
  · intro e
    rw [rt_pow_mod h] at e
    rcases Nat.eq_zero_or_pos (m % 2 ^ k) with h0 | h0
    · exact h0
    · exact absurd e (rt_order h h0 (Nat.mod_lt _ (Nat.two_pow_pos k)))
  · intro e; rw [rt_pow_mod h, e]; grind
/-- What leaves 1 to a power of two is a power of the root. -/
theorem is_rt_pow {k : Nat} (h : k ≤ 32) {x : F} (hx : x ^ (2 ^ k) = 1) : ∃ g, g < 2 ^ k ∧ x = rt k ^ g := by
  have h0 : x ≠ 0 := by
    intro e
    rw [e] at hx
    have hp : 0 < 2 ^ k := Nat.two_pow_pos k
    have : ∀ n : Nat, 0 < n → (0 : F) ^ n = 0 := fun n hn => by
      obtain ⟨m, rfl⟩ : ∃ m, n = m + 1 := ⟨n - 1, by omega⟩
      grind
    rw [this _ hp] at hx
    exact one_ne_zero hx.symm
  obtain ⟨i, hi, rfl⟩ := is_power x h0
  rw [← pow_mul'] at hx
  have hd : 18446744069414584320 ∣ i * 2 ^ k := by
    have e := pow_mod_one (cv 7) hx g_full
    rcases Nat.eq_zero_or_pos (i * 2 ^ k % 18446744069414584320) with e0 | e0
    · exact Nat.dvd_of_mod_eq_zero e0
    · exact absurd e (g_order _ e0 (Nat.mod_lt _ (by omega)))
  have hm := part_mul h
  rw [← hm] at hd
  obtain ⟨g, hg⟩ := Nat.dvd_of_mul_dvd_mul_right (Nat.two_pow_pos k) hd
  refine ⟨g, ?_, ?_⟩
  · have := part_pos h
    apply Nat.lt_of_mul_lt_mul_left (a := 18446744069414584320 / 2 ^ k)
    rw [← hg, hm]; exact hi
  · unfold rt; rw [← pow_mul', ← hg]
theorem rt_one : rt 1 = -1 := by
  have h1 : rt 1 * rt 1 = 1 := by have := rt_sq (k := 0) (by omega); rw [rt_zero] at this; exact this
  have h2 : rt 1 ≠ 1 := by have := rt_order (k := 1) (m := 1) (by omega) (by omega) (by decide); intro e; exact this (by rw [e]; grind)
  have h3 : (rt 1 - 1) * (rt 1 + 1) = 0 := by grind
  rcases mul_eq_zero.1 h3 with e | e
  · exact absurd (by grind) h2
  · grind
theorem rt_half {k : Nat} (h : k < 32) : rt (k + 1) ^ (2 ^ k) = -1 := by
  have := rt_pow_two (k := 1) (j := k) (by omega)
  rw [Nat.add_comm 1 k, rt_one] at this; exact this
theorem sub_self' {n : Nat} [NeZero n] (x : Fin n) : x - x = 0 := by grind
theorem eq_of_sub {n : Nat} [NeZero n] {x y : Fin n} (h : x - y = 0) : x = y := by grind
/-- The sum of a geometric row. -/
theorem geo {n : Nat} [NeZero n] (x : Fin n) (m : Nat) : (x - 1) * Sm m (fun i => x ^ i) = x ^ m - 1 := by
  induction m with
  | zero => simp only [Sm_zero]; grind
  | succ m ih => rw [Sm_succ]; grind
theorem geo_zero {x : F} {m : Nat} (h1 : x ≠ 1) (hm : x ^ m = 1) : Sm m (fun i => x ^ i) = 0 := by
  have := geo x m
  rw [hm] at this
  have h0 : (x - 1) * Sm m (fun i => x ^ i) = 0 := by rw [this]; exact sub_self' 1
  rcases mul_eq_zero.1 h0 with e | e
  · exact absurd (eq_of_sub e) h1
  · exact e
end Go.Proofs.YtnmjomcpkckihaaDoor.M
