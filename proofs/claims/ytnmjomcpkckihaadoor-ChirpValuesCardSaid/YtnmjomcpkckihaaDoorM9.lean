/- Sums of a row and its transform; sums of squares. -/
import Derived.Test.YtnmjomcpkckihaaDoorM8
namespace Go.Proofs.YtnmjomcpkckihaaDoor.M
set_option autoImplicit false
set_option linter.unusedVariables false
set_option linter.unusedSimpArgs false

theorem dft_zero (n : Nat) (w : F) (f : Nat → F) : dft n w f 0 = Sm n f := Sm_congr (fun i _ => k1 _ _ _)
where
  k1 {R : Nat} [NeZero R] (x w : Fin R) (i : Nat) : x * (w ^ 0) ^ i = x := by
    rw [show w ^ 0 = 1 by grind, one_pow']; grind
theorem tf_zero (k : Nat) (d : Int) (f : Nat → F) : tf k d f 0 = if d = 1 then Sm (2 ^ k) f * sh k else Sm (2 ^ k) f := by
  unfold tf; rw [dft_zero]
/-- Where one turns to, of n places. -/
def tn (n i : Nat) : Nat := (n - i) % n
theorem dr_turn {k : Nat} (h : k ≤ 32) (t : Nat) (ht : t < 2 ^ k) : dr k 0 ^ t = dr k 1 ^ tn (2 ^ k) t := by
  have e1 : dr k 0 ^ t * dr k 0 ^ tn (2 ^ k) t = 1 := by
    rw [← pow_add', dr_pow_one_iff h]
    unfold tn
    rcases Nat.eq_zero_or_pos t with h0 | h0
    · rw [h0, Nat.sub_zero, Nat.mod_self]; exact Nat.zero_mod _
    · rw [Nat.mod_eq_of_lt (a := 2 ^ k - t) (by omega), show t + (2 ^ k - t) = 2 ^ k by omega]; exact Nat.mod_self _
  have e2 := one_mul_eq (dr_other k (d := 0) (.inl rfl)) (tn (2 ^ k) t)
  rw [show (1 : Int) - 0 = 1 by omega] at e2
  refine k1 _ _ _ e1 e2
where
  k1 {R : Nat} [NeZero R] (a b c : Fin R) (h1 : a * b = 1) (h2 : b * c = 1) : a = c := by
    have : a = a * (b * c) := by rw [h2]; grind
    rw [this]
    have : a * (b * c) = a * b * c := by grind
    rw [this, h1]; grind
theorem tn_lt {n i : Nat} (h : 0 < n) : tn n i < n := Nat.mod_lt _ h
theorem squares {k : Nat} (h : k ≤ 32) (f : Nat → F) : Sm (2 ^ k) (fun j => dft (2 ^ k) (dr k 0) f j * dft (2 ^ k) (dr k 0) f j) = Sm (2 ^ k) (fun i => f i * f (tn (2 ^ k) i)) * cv ((2 ^ k : Nat) : Int) := by
  have hp := Nat.two_pow_pos k
  have e1 : Sm (2 ^ k) (fun j => dft (2 ^ k) (dr k 0) f j * dft (2 ^ k) (dr k 0) f j) = Sm (2 ^ k) (fun j => Sm (2 ^ k) (fun t => f t * (dft (2 ^ k) (dr k 0) f j * (dr k 0 ^ t) ^ j))) := by
    refine Sm_congr (fun j _ => ?_)
    have : dft (2 ^ k) (dr k 0) f j * dft (2 ^ k) (dr k 0) f j = dft (2 ^ k) (dr k 0) f j * Sm (2 ^ k) (fun t => f t * (dr k 0 ^ j) ^ t) := rfl
    rw [this, ← Sm_mul]
    refine Sm_congr (fun t _ => ?_)
    rw [← pow_mul', ← pow_mul', Nat.mul_comm t j]; exact k3 _ _ _
  rw [e1, Sm_swap, ← Sm_mul_right]
  refine Sm_congr (fun t ht => ?_)
  rw [Sm_mul, dr_turn h t ht]
  have key := dft_dft h (d := 0) (.inl rfl) f (tn_lt (i := t) hp)
  rw [show (1 : Int) - 0 = 1 by omega] at key
  have e2 : Sm (2 ^ k) (fun i => dft (2 ^ k) (dr k 0) f i * (dr k 1 ^ tn (2 ^ k) t) ^ i) = f (tn (2 ^ k) t) * cv ((2 ^ k : Nat) : Int) := key
  rw [e2]; exact k4 _ _ _
where
  k3 {R : Nat} [NeZero R] (a b c : Fin R) : a * (b * c) = b * (a * c) := by grind
  k4 {R : Nat} [NeZero R] (a b c : Fin R) : a * (b * c) = a * b * c := by grind
end Go.Proofs.YtnmjomcpkckihaaDoor.M
