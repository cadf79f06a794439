/- The value of the row whose transform a row is, by the barycentric sum. -/
import Derived.Test.YtnmjomcpkckihaaDoorM7
namespace Go.Proofs.YtnmjomcpkckihaaDoor.M
set_option autoImplicit false
set_option linter.unusedVariables false
set_option linter.unusedSimpArgs false

/-- The value at z of the row whose plain transform of direction d is y. -/
def bc (k : Nat) (d : Int) (y : Nat → F) (z : F) : F := ev (2 ^ k) (fun j => dft (2 ^ k) (dr k (1 - d)) y j * sh k) z
theorem one_sub_sub (d : Int) : 1 - (1 - d) = d := by omega
theorem bc_at {k : Nat} (h : k ≤ 32) {d : Int} (hd : d = 0 ∨ d = 1) (y : Nat → F) {i : Nat} (hi : i < 2 ^ k) : bc k d y (dr k d ^ i) = y i := by
  have hd2 : 1 - d = 0 ∨ 1 - d = 1 := by omega
  have key := dft_dft h hd2 y hi
  rw [one_sub_sub] at key
  unfold bc
  rw [← dft_ev, dft_scale, key, k3, mul_sh h]
  exact k1 _
where
  k1 {R : Nat} [NeZero R] (x : Fin R) : x * 1 = x := by grind
  k3 {R : Nat} [NeZero R] (x y z : Fin R) : x * y * z = x * (y * z) := by grind
theorem bc_geo {k : Nat} (h : k ≤ 32) {d : Int} (hd : d = 0 ∨ d = 1) (z : F) (i : Nat) (hz : z - dr k d ^ i ≠ 0) :
    Sm (2 ^ k) (fun j => (dr k (1 - d) ^ j) ^ i * z ^ j) = dr k d ^ i * inv (z - dr k d ^ i) * (z ^ (2 ^ k) - 1) := by
  have hw : dr k d ^ i * dr k (1 - d) ^ i = 1 := one_mul_eq (dr_other k hd) i
  have e : ∀ j : Nat, (dr k (1 - d) ^ j) ^ i * z ^ j = (dr k (1 - d) ^ i * z) ^ j := by
    intro j; rw [mul_pow', ← pow_mul', ← pow_mul', Nat.mul_comm j i]
  rw [Sm_congr (fun j _ => e j)]
  have g := geo (dr k (1 - d) ^ i * z) (2 ^ k)
  have en : (dr k (1 - d) ^ i * z) ^ (2 ^ k) = z ^ (2 ^ k) := by
    rw [mul_pow', ← pow_mul', Nat.mul_comm i, pow_mul', dr_full h, one_pow']; exact k1 _
  rw [en] at g
  have hi := mul_inv hz
  rw [← g]
  exact (k2 _ _ _ _ _ hw hi).symm
where
  k1 {R : Nat} [NeZero R] (x : Fin R) : 1 * x = x := by grind
  k2 {R : Nat} [NeZero R] (u v z q s : Fin R) (h1 : u * v = 1) (h2 : (z - u) * q = 1) : u * q * ((v * z - 1) * s) = s := by grind
theorem bc_sum {k : Nat} (h : k ≤ 32) {d : Int} (hd : d = 0 ∨ d = 1) (y : Nat → F) (z : F) (hz : ∀ i, i < 2 ^ k → z - dr k d ^ i ≠ 0) :
    bc k d y z = Sm (2 ^ k) (fun i => y i * dr k d ^ i * inv (z - dr k d ^ i)) * sh k * (z ^ (2 ^ k) - 1) := by
  have e1 : bc k d y z = Sm (2 ^ k) (fun j => Sm (2 ^ k) (fun i => y i * sh k * ((dr k (1 - d) ^ j) ^ i * z ^ j))) := by
    unfold bc ev
    refine Sm_congr (fun j _ => ?_)
    show Sm (2 ^ k) (fun i => y i * (dr k (1 - d) ^ j) ^ i) * sh k * z ^ j = _
    rw [← Sm_mul_right, ← Sm_mul_right]
    exact Sm_congr (fun i _ => k3 _ _ _ _)
  rw [e1, Sm_swap, Sm_congr (g := fun i => (sh k * (z ^ (2 ^ k) - 1)) * (y i * dr k d ^ i * inv (z - dr k d ^ i))) (fun i hi => by rw [Sm_mul, bc_geo h hd z i (hz i hi)]; exact k4 _ _ _ _ _), Sm_mul]
  exact k5 _ _ _
where
  k3 {R : Nat} [NeZero R] (a b c d : Fin R) : a * b * c * d = a * c * (b * d) := by grind
  k4 {R : Nat} [NeZero R] (y s u q t : Fin R) : y * s * (u * q * t) = s * t * (y * u * q) := by grind
  k5 {R : Nat} [NeZero R] (s t x : Fin R) : s * t * x = x * s * t := by grind
theorem bc_tf {k : Nat} (h : k ≤ 32) {d : Int} (hd : d = 0 ∨ d = 1) (y : Nat → F) (z : F) :
    ev (2 ^ k) (tf k (1 - d) y) z = if d = 1 then bc k d y z * cv ((2 ^ k : Nat) : Int) else bc k d y z := by
  rcases hd with rfl | rfl
  · rw [if_neg (by omega)]
    unfold bc
    exact ev_congr z (fun j _ => by unfold tf; rw [if_pos (by omega)])
  · rw [if_pos rfl]
    have hs := mul_sh h
    unfold bc
    rw [ev_scale, k3, k4 _ _ hs]
    refine Eq.trans (ev_congr z (g := dft (2 ^ k) (dr k (1 - 1)) y) (fun j _ => by unfold tf; rw [if_neg (by omega)])) (k1 _).symm
where
  k1 {R : Nat} [NeZero R] (x : Fin R) : x * 1 = x := by grind
  k3 {R : Nat} [NeZero R] (x y z : Fin R) : x * y * z = x * (y * z) := by grind
  k4 {R : Nat} [NeZero R] (x y : Fin R) (h : x * y = 1) : y * x = 1 := by grind
end Go.Proofs.YtnmjomcpkckihaaDoor.M
