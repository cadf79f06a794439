/- Roots of a direction, transforms by their sums, and that the other direction undoes one. -/
import Derived.Test.YtnmjomcpkckihaaDoorM6
namespace Go.Proofs.YtnmjomcpkckihaaDoor.M
set_option autoImplicit false
set_option linter.unusedVariables false
set_option linter.unusedSimpArgs false

theorem mul_pow' {n : Nat} [NeZero n] (x y : Fin n) (k : Nat) : (x * y) ^ k = x ^ k * y ^ k := by
  induction k with
  | zero => grind
  | succ k ih => rw [pow_add', pow_add', pow_add', ih]; grind
theorem mul_cancel_of {n : Nat} [NeZero n] {u v x y : Fin n} (h : u * v = 1) (e : x * v = y * v) : x = y := by
  have h1 : x = x * v * u := by grind
  have h2 : y = y * v * u := by grind
  rw [h1, h2, e]
theorem one_mul_eq {n : Nat} [NeZero n] {u v : Fin n} (h : u * v = 1) (k : Nat) : u ^ k * v ^ k = 1 := by rw [← mul_pow', h, one_pow']
/-- The root of a direction (0: forth). -/
def dr (k : Nat) (d : Int) : F := if d = 0 then rt k else inv (rt k)
theorem dr_fwd (k : Nat) : dr k 0 = rt k := if_pos rfl
theorem dr_inv (k : Nat) : dr k 1 = inv (rt k) := if_neg (by omega)
theorem dr_ne_zero (k : Nat) (d : Int) : dr k d ≠ 0 := by
  unfold dr; split
  · exact rt_ne_zero k
  · exact inv_ne_zero (rt_ne_zero k)
theorem inv_pow_one {x : F} {n : Nat} (hx : x ≠ 0) : inv x ^ n = 1 ↔ x ^ n = 1 := by
  have h := one_mul_eq (mul_inv hx) n
  constructor
  · intro e; rw [e] at h; rw [← h]; exact (k1 _).symm
  · intro e; rw [e] at h; rw [← h]; exact (k2 _).symm
where
  k1 {R : Nat} [NeZero R] (x : Fin R) : x * 1 = x := by grind
  k2 {R : Nat} [NeZero R] (x : Fin R) : 1 * x = x := by grind
theorem dr_pow_one_iff {k : Nat} (h : k ≤ 32) (d : Int) (m : Nat) : dr k d ^ m = 1 ↔ m % 2 ^ k = 0 := by
  unfold dr; split
  · exact rt_pow_one_iff h m
  · rw [inv_pow_one (rt_ne_zero k)]; exact rt_pow_one_iff h m
theorem dr_full {k : Nat} (h : k ≤ 32) (d : Int) : dr k d ^ (2 ^ k) = 1 := (dr_pow_one_iff h d _).2 (Nat.mod_self _)
theorem dr_inj {k i j : Nat} (h : k ≤ 32) (d : Int) (hi : i < 2 ^ k) (hj : j < 2 ^ k) (e : dr k d ^ i = dr k d ^ j) : i = j := by
  have key : ∀ i j : Nat, i < j → j < 2 ^ k → dr k d ^ i = dr k d ^ j → False := by
    intro i j hij hj e
    have e2 : dr k d ^ j = dr k d ^ i * dr k d ^ (j - i) := by rw [← pow_add']; congr 1; omega
    have e3 : dr k d ^ (j - i) = 1 := by
      refine cancel (pow_ne_zero (dr_ne_zero k d) i) ?_
      rw [← e2, ← e]; exact (k1 _).symm
    have := (dr_pow_one_iff h d _).1 e3
    rw [Nat.mod_eq_of_lt (by omega)] at this
    omega
  rcases Nat.lt_trichotomy i j with h1 | h1 | h1
  · exact (key i j h1 hj e).elim
  · exact h1
  · exact (key j i h1 hi e.symm).elim
where
  k1 {R : Nat} [NeZero R] (x : Fin R) : x * 1 = x := by grind
theorem inv_rt_pow {k : Nat} (h : k ≤ 32) : rt k ^ (2 ^ k - 1) = inv (rt k) := by
  apply inv_unique
  have hp := Nat.two_pow_pos k
  have e : rt k ^ (1 + (2 ^ k - 1)) = 1 := by rw [show 1 + (2 ^ k - 1) = 2 ^ k by omega]; exact rt_pow_full h
  rw [pow_add'] at e
  rw [← e]; exact k1 _ _
where
  k1 {R : Nat} [NeZero R] (x y : Fin R) : x * y = x ^ 1 * y := by grind
theorem dr_other (k : Nat) {d : Int} (hd : d = 0 ∨ d = 1) : dr k d * dr k (1 - d) = 1 := by
  rcases hd with rfl | rfl
  · rw [dr_fwd, show (1 : Int) - 0 = 1 by omega, dr_inv]; exact mul_inv (rt_ne_zero k)
  · rw [show (1 : Int) - 1 = 0 by omega, dr_fwd, dr_inv]; exact inv_mul (rt_ne_zero k)
/-- A row's transform to a root: at place j the sum of all f i · (w^j)^i. -/
def dft (n : Nat) (w : F) (f : Nat → F) (j : Nat) : F := Sm n (fun i => f i * (w ^ j) ^ i)
theorem dft_ev (n : Nat) (w : F) (f : Nat → F) (j : Nat) : dft n w f j = ev n f (w ^ j) := rfl
theorem dft_congr {n : Nat} {w : F} {f g : Nat → F} (h : ∀ i, i < n → f i = g i) (j : Nat) : dft n w f j = dft n w g j := Sm_congr (fun i hi => by rw [h i hi])
theorem dft_scale (n : Nat) (w : F) (f : Nat → F) (c : F) (j : Nat) : dft n w (fun i => f i * c) j = dft n w f j * c := by
  unfold dft; rw [← Sm_mul_right]
  exact Sm_congr (fun i _ => k1 _ _ _)
where
  k1 {R : Nat} [NeZero R] (x c y : Fin R) : x * c * y = x * y * c := by grind
theorem ortho {k : Nat} (h : k ≤ 32) {d : Int} (hd : d = 0 ∨ d = 1) {t i : Nat} (ht : t < 2 ^ k) (hi : i < 2 ^ k) :
    Sm (2 ^ k) (fun j => (dr k d ^ j) ^ t * (dr k (1 - d) ^ i) ^ j) = if t = i then cv ((2 ^ k : Nat) : Int) else 0 := by
  have e : ∀ j : Nat, (dr k d ^ j) ^ t * (dr k (1 - d) ^ i) ^ j = (dr k d ^ t * dr k (1 - d) ^ i) ^ j := by
    intro j
    rw [mul_pow', ← pow_mul', ← pow_mul', ← pow_mul', Nat.mul_comm j t]
  rw [Sm_congr (fun j _ => e j)]
  by_cases c : t = i
  · subst c
    rw [if_pos rfl, one_mul_eq (dr_other k hd), Sm_congr (g := fun _ => (1 : F)) (fun j _ => one_pow' j), Sm_const]
    exact k2 _
  · rw [if_neg c]
    refine geo_zero (fun h1 => c ?_) ?_
    · refine dr_inj h d ht hi ?_
      refine mul_cancel_of (one_mul_eq (dr_other k hd) i) ?_
      rw [h1, one_mul_eq (dr_other k hd)]
    · rw [mul_pow', ← pow_mul', ← pow_mul', Nat.mul_comm t, Nat.mul_comm i, pow_mul', pow_mul', dr_full h, dr_full h, one_pow', one_pow']
      exact k2 _
where
  k2 {R : Nat} [NeZero R] (x : Fin R) : 1 * x = x := by grind
theorem dft_dft {k : Nat} (h : k ≤ 32) {d : Int} (hd : d = 0 ∨ d = 1) (f : Nat → F) {i : Nat} (hi : i < 2 ^ k) :
    dft (2 ^ k) (dr k (1 - d)) (dft (2 ^ k) (dr k d) f) i = f i * cv ((2 ^ k : Nat) : Int) := by
  have e1 : dft (2 ^ k) (dr k (1 - d)) (dft (2 ^ k) (dr k d) f) i = Sm (2 ^ k) (fun j => Sm (2 ^ k) (fun t => f t * ((dr k d ^ j) ^ t * (dr k (1 - d) ^ i) ^ j))) := by
    unfold dft
    refine Sm_congr (fun j _ => ?_)
    rw [← Sm_mul_right]
    exact Sm_congr (fun t _ => k3 _ _ _)
  rw [e1, Sm_swap, Sm_congr (g := fun t => f t * (if t = i then cv ((2 ^ k : Nat) : Int) else 0)) (fun t ht => by rw [Sm_mul, ortho h hd ht hi])]
  rw [Sm_one hi (fun t _ hne => by rw [if_neg hne]; exact k0 _), if_pos rfl]
where
  k0 {R : Nat} [NeZero R] (x : Fin R) : x * 0 = 0 := by grind
  k3 {R : Nat} [NeZero R] (x y z : Fin R) : x * y * z = x * (y * z) := by grind
/-- The inverse of 2^k. -/
def sh (k : Nat) : F := inv (cv ((2 ^ k : Nat) : Int))
theorem two_pow_ne {k : Nat} (h : k ≤ 32) : cv ((2 ^ k : Nat) : Int) ≠ 0 := by
  have h1 : 2 ^ k ≤ 2 ^ 32 := Nat.pow_le_pow_right (by omega) h
  have h2 := Nat.two_pow_pos k
  intro e
  have := cv_eq_zero.1 e
  omega
theorem mul_sh {k : Nat} (h : k ≤ 32) : cv ((2 ^ k : Nat) : Int) * sh k = 1 := mul_inv (two_pow_ne h)
theorem cv_two_pow (k : Nat) : cv ((2 ^ k : Nat) : Int) = cv 2 ^ k := by
  rw [show ((2 ^ k : Nat) : Int) = (2 : Int) ^ k by simp, cv_nat_pow]
theorem sh_pow (k : Nat) : cv 9223372034707292161 ^ k = sh k := by
  unfold sh
  apply inv_unique
  rw [cv_two_pow]
  refine one_mul_eq ?_ k
  rw [← cv_mul, ← cv_one]
  exact cv_congr (a := 2 * 9223372034707292161) (b := 1) (by decide)
theorem sh_zero : sh 0 = 1 := by rw [← sh_pow]; exact k1 _
where
  k1 {R : Nat} [NeZero R] (x : Fin R) : x ^ 0 = 1 := by grind
/-- The transform of a direction: divided, if it goes back. -/
def tf (k : Nat) (d : Int) (f : Nat → F) (j : Nat) : F := if d = 1 then dft (2 ^ k) (dr k d) f j * sh k else dft (2 ^ k) (dr k d) f j
theorem tf_congr {k : Nat} {d : Int} {f g : Nat → F} (h : ∀ i, i < 2 ^ k → f i = g i) (j : Nat) : tf k d f j = tf k d g j := by
  unfold tf; rw [dft_congr h]
theorem tf_tf {k : Nat} (h : k ≤ 32) {d : Int} (hd : d = 0 ∨ d = 1) (f : Nat → F) {i : Nat} (hi : i < 2 ^ k) : tf k (1 - d) (tf k d f) i = f i := by
  have key := dft_dft h hd f hi
  have hs := mul_sh h
  rcases hd with rfl | rfl
  · have e : tf k (1 - 0) (tf k 0 f) i = dft (2 ^ k) (dr k (1 - 0)) (dft (2 ^ k) (dr k 0) f) i * sh k := by
      unfold tf; rw [if_pos (by omega)]
      exact congrArg (· * sh k) (dft_congr (fun j _ => if_neg (by omega)) i)
    rw [e, key, k3, hs]; exact k1 _
  · have e : tf k (1 - 1) (tf k 1 f) i = dft (2 ^ k) (dr k (1 - 1)) (dft (2 ^ k) (dr k 1) f) i * sh k := by
      unfold tf; rw [if_neg (by omega), ← dft_scale]
      exact dft_congr (fun j _ => if_pos rfl) i
    rw [e, key, k3, hs]; exact k1 _
where
  k1 {R : Nat} [NeZero R] (x : Fin R) : x * 1 = x := by grind
  k3 {R : Nat} [NeZero R] (x y z : Fin R) : x * y * z = x * (y * z) := by grind
end Go.Proofs.YtnmjomcpkckihaaDoor.M
