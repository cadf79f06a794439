/- Chirps: i times j is what both are together above two, less what each is. -/
import Derived.Test.YtnmjomcpkckihaaDoorM16
namespace Go.Proofs.YtnmjomcpkckihaaDoor.M
set_option autoImplicit false
set_option linter.unusedVariables false
set_option linter.unusedSimpArgs false
/-- i above two. -/
def tri : Nat → Nat
  | 0 => 0
  | i + 1 => tri i + i
theorem tri_add (i : Nat) : ∀ j, tri (i + j) = tri i + tri j + i * j
  | 0 => by show tri i = tri i + 0 + i * 0; omega
  | j + 1 => by
    show tri (i + j) + (i + j) = tri i + (tri j + j) + i * (j + 1)
    rw [tri_add i j, Nat.mul_succ]; omega
def hil (w : F) (i : Nat) : F := w ^ tri i
theorem hil_zero (w : F) : hil w 0 = 1 := by show w ^ 0 = 1; grind
theorem hil_succ (w : F) (i : Nat) : hil w (i + 1) = hil w i * w ^ i := pow_add w (tri i) i
where
  pow_add {R : Nat} [NeZero R] (w : Fin R) (a b : Nat) : w ^ (a + b) = w ^ a * w ^ b := by grind
theorem one_pow {R : Nat} [NeZero R] (n : Nat) : (1 : Fin R) ^ n = 1 := by
  induction n with
  | zero => grind
  | succ n ih =>
    have e : (1 : Fin R) ^ (n + 1) = 1 ^ n * 1 := by grind
    rw [e, ih]; grind
theorem hil_inv {w v : F} (h : v * w = 1) (i : Nat) : hil v i * hil w i = 1 := by
  unfold hil
  rw [k3, h, one_pow]
where
  k3 {R : Nat} [NeZero R] {a b : Fin R} {n : Nat} : a ^ n * b ^ n = (a * b) ^ n := by
    induction n with
    | zero => grind
    | succ n ih =>
      have e1 : a ^ (n + 1) = a ^ n * a := by grind
      have e2 : b ^ (n + 1) = b ^ n * b := by grind
      have e3 : (a * b) ^ (n + 1) = (a * b) ^ n * (a * b) := by grind
      rw [e1, e2, e3, ← ih]; grind
theorem hil_add {w v : F} (h : v * w = 1) (i j : Nat) : hil v i * hil w (i + j) * hil v j = (w ^ j) ^ i := by
  have e : hil w (i + j) = hil w i * hil w j * (w ^ j) ^ i := by
    unfold hil
    rw [tri_add]
    exact k1 w _ _ i j
  rw [e]
  exact k2 _ _ _ _ _ (hil_inv h i) (hil_inv h j)
where
  k1 {R : Nat} [NeZero R] (w : Fin R) (a b i j : Nat) : w ^ (a + b + i * j) = w ^ a * w ^ b * (w ^ j) ^ i := by
    have e1 : w ^ (a + b + i * j) = w ^ a * w ^ b * w ^ (i * j) := by grind
    have e2 : ∀ i : Nat, w ^ (i * j) = (w ^ j) ^ i := fun i => by
      induction i with
      | zero => rw [Nat.zero_mul]; grind
      | succ i ih =>
        have e3 : (w ^ j) ^ (i + 1) = (w ^ j) ^ i * w ^ j := by grind
        rw [Nat.succ_mul, e3, ← ih]; grind
    rw [e1, e2]
  k2 {R : Nat} [NeZero R] (x y z t p : Fin R) (h : x * y = 1) (h2 : z * t = 1) : x * (y * t * p) * z = p := by
    have : x * (y * t * p) * z = (x * y) * (z * t) * p := by grind
    rw [this, h, h2]; grind
/-- What lies from behind around a row, times a row, around it. -/
theorem wrp_behind {N l j : Nat} {g b : Nat → F} (hg : ∀ i, l ≤ i → g i = 0) (hN : 0 < N) (hj : j + l ≤ N) (hjN : j < N) : wrp N 1 (fun s => g (tn N s)) b j = Sm l (fun i => g i * b (i + j)) := by
  have h1 : Sm N (fun i => g i * b (i + j)) = Sm l (fun i => g i * b (i + j)) := Sm_ext (by omega) (fun i hi _ => by rw [hg i hi]; exact k0 _)
  rw [← h1]
  unfold wrp
  obtain ⟨n, rfl⟩ : ∃ n, N = n + 1 := ⟨N - 1, by omega⟩
  rw [Sm_first, Sm_first]
  have t0 : tn (n + 1) 0 = 0 := by unfold tn; rw [Nat.sub_zero, Nat.mod_self]
  show (if 0 ≤ j then g (tn (n + 1) 0) * b (j - 0) else 1 * (g (tn (n + 1) 0) * b (j + (n + 1) - 0))) + _ = g 0 * b (0 + j) + _
  rw [if_pos (Nat.zero_le _), t0, Nat.sub_zero, Nat.zero_add, Sm_rev]
  refine congrArg (g 0 * b j + ·) (Sm_congr (fun i hi => ?_))
  have e1 : tn (n + 1) (n - 1 - i + 1) = i + 1 := by
    unfold tn
    rw [show n + 1 - (n - 1 - i + 1) = i + 1 by omega, Nat.mod_eq_of_lt (by omega)]
  show (if n - 1 - i + 1 ≤ j then g (tn (n + 1) (n - 1 - i + 1)) * b (j - (n - 1 - i + 1)) else 1 * (g (tn (n + 1) (n - 1 - i + 1)) * b (j + (n + 1) - (n - 1 - i + 1)))) = g (i + 1) * b (i + 1 + j)
  rw [e1]
  by_cases c : i + 1 < l
  · rw [if_neg (by omega), show j + (n + 1) - (n - 1 - i + 1) = i + 1 + j by omega]
    exact k1 _
  · rw [hg (i + 1) (by omega)]
    by_cases d : n - 1 - i + 1 ≤ j
    · rw [if_pos d, k0, k0]
    · rw [if_neg d, k0, k0]; exact k0' _
where
  k0 {R : Nat} [NeZero R] (x : Fin R) : 0 * x = 0 := by grind
  k0' {R : Nat} [NeZero R] (x : Fin R) : x * 0 = 0 := by grind
  k1 {R : Nat} [NeZero R] (x : Fin R) : 1 * x = x := by grind
/-- The values of a polynomial at powers, by one convolution. -/
theorem chirp_sum {N l M j : Nat} {f : Nat → F} {w v : F} (h : v * w = 1) (hf : ∀ i, l ≤ i → f i = 0) {b : Nat → F} (hb : ∀ t, t < l + M → b t = hil w t) (hN : l + M ≤ N) (hj : j < M) :
    wrp N 1 (fun s => f (tn N s) * hil v (tn N s)) b j * hil v j = ev l f (w ^ j) := by
  have e := wrp_behind (N := N) (l := l) (j := j) (g := fun i => f i * hil v i) (b := b) (fun i hi => by rw [hf i hi]; exact k0 _) (by omega) (by omega) (by omega)
  rw [e, ← Sm_mul_right]
  unfold ev
  refine Sm_congr (fun i hi => ?_)
  rw [hb (i + j) (by omega)]
  show f i * hil v i * hil w (i + j) * hil v j = f i * (w ^ j) ^ i
  rw [← hil_add h i j]
  exact k1 _ _ _ _
where
  k0 {R : Nat} [NeZero R] (x : Fin R) : 0 * x = 0 := by grind
  k1 {R : Nat} [NeZero R] (a b c d : Fin R) : a * b * c * d = a * (b * c * d) := by grind
end Go.Proofs.YtnmjomcpkckihaaDoor.M
