/- Sums of products around a row: cyclic, negacyclic, correlations; what transforms make of them. -/
import Derived.Test.YtnmjomcpkckihaaM12
namespace Go.Proofs.Ytnmjomcpkckihaa.M
set_option autoImplicit false
set_option linter.unusedVariables false
set_option linter.unusedSimpArgs false
section
variable {R : Nat} [NeZero R]
/-- The sum of products around a row of n places: what goes over the end comes in again, s times. -/
def wrp (n : Nat) (s : Fin R) (f g : Nat → Fin R) (j : Nat) : Fin R := Sm n (fun i => if i ≤ j then f i * g (j - i) else s * (f i * g (j + n - i)))
theorem wrp_congr {n : Nat} {s : Fin R} {f f' g g' : Nat → Fin R} {j : Nat} (hj : j < n) (h : ∀ i, i < n → f i = f' i) (h2 : ∀ i, i < n → g i = g' i) : wrp n s f g j = wrp n s f' g' j := by
  unfold wrp
  refine Sm_congr (fun i hi => ?_)
  by_cases c : i ≤ j
  · rw [if_pos c, if_pos c, h i hi, h2 (j - i) (by omega)]
  · rw [if_neg c, if_neg c, h i hi, h2 (j + n - i) (by omega)]
theorem wrp_fold {n j : Nat} (hj : j < n) (s : Fin R) {f g : Nat → Fin R} (hf : ∀ i, n ≤ i → f i = 0) (hg : ∀ i, n ≤ i → g i = 0) : wrp n s f g j = cvl f g j + s * cvl f g (j + n) := by
  have e1 : cvl f g j = Sm n (fun i => if i ≤ j then f i * g (j - i) else 0) := by
    rw [Sm_ext (a := j + 1) (b := n) (by omega) (fun i h1 _ => if_neg (by omega))]
    exact Sm_congr (fun i hi => (if_pos (by omega)).symm)
  have e2 : cvl f g (j + n) = Sm n (fun i => if i ≤ j then 0 else f i * g (j + n - i)) := by
    unfold cvl
    rw [Sm_ext (a := n) (b := j + n + 1) (by omega) (fun i h1 _ => by rw [hf i h1]; exact k0 _)]
    refine Sm_congr (fun i hi => ?_)
    by_cases c : i ≤ j
    · rw [if_pos c, hg _ (by omega)]; exact k1 _
    · rw [if_neg c]
  rw [e1, e2, ← Sm_mul, ← Sm_add]
  refine Sm_congr (fun i hi => ?_)
  by_cases c : i ≤ j
  · rw [if_pos c, if_pos c, if_pos c]; exact k2 _ _
  · rw [if_neg c, if_neg c, if_neg c]; exact k3 _
where
  k0 (x : Fin R) : 0 * x = 0 := by grind
  k1 (x : Fin R) : x * 0 = 0 := by grind
  k2 (x s : Fin R) : x = x + s * 0 := by grind
  k3 (x : Fin R) : x = 0 + x := by grind
theorem ev_wrp {n : Nat} {f g : Nat → Fin R} (hf : ∀ i, n ≤ i → f i = 0) (hg : ∀ i, n ≤ i → g i = 0) {x : Fin R} (hx : x ^ n = 1) : ev n (wrp n 1 f g) x = ev n f x * ev n g x := by
  rw [← ev_mul hf hg]
  have e : ev (n + n) (cvl f g) x = ev n (cvl f g) x + Sm n (fun i => cvl f g (n + i) * x ^ (n + i)) := Sm_split n n _
  rw [e]
  unfold ev
  rw [← Sm_add]
  refine Sm_congr (fun i hi => ?_)
  rw [wrp_fold hi 1 hf hg, pow_add', hx, Nat.add_comm n i]
  exact k1 _ _ _
where
  k1 (a b c : Fin R) : (a + 1 * b) * c = a * c + b * (1 * c) := by grind
end
/-- A function, nought past so many places. -/
def cut (n : Nat) (f : Nat → F) (i : Nat) : F := if i < n then f i else 0
theorem cut_in {n i : Nat} (f : Nat → F) (h : i < n) : cut n f i = f i := if_pos h
theorem cut_out {n : Nat} (f : Nat → F) : ∀ i, n ≤ i → cut n f i = 0 := fun i h => if_neg (by omega)
theorem dr_pow_full {k : Nat} (h : k ≤ 32) (d : Int) (j : Nat) : (dr k d ^ j) ^ (2 ^ k) = 1 := by
  rw [← pow_mul', Nat.mul_comm, pow_mul', dr_full h, one_pow']
theorem tf_fwd (k : Nat) (f : Nat → F) (j : Nat) : tf k 0 f j = dft (2 ^ k) (dr k 0) f j := if_neg (by omega)
/-- The transform of a sum of products around the row is the product of the transforms. -/
theorem tf_wrp {k : Nat} (h : k ≤ 32) (f g : Nat → F) (j : Nat) : tf k 0 (wrp (2 ^ k) 1 f g) j = tf k 0 f j * tf k 0 g j := by
  have e : tf k 0 (wrp (2 ^ k) 1 f g) j = tf k 0 (wrp (2 ^ k) 1 (cut (2 ^ k) f) (cut (2 ^ k) g)) j := tf_congr (fun i hi => wrp_congr hi (fun t ht => (cut_in f ht).symm) (fun t ht => (cut_in g ht).symm)) j
  rw [e, tf_fwd, dft_ev, ev_wrp (cut_out f) (cut_out g) (dr_pow_full h 0 j), ← dft_ev, ← dft_ev, tf_fwd, tf_fwd, dft_congr (fun i hi => cut_in f hi), dft_congr (fun i hi => cut_in g hi)]
theorem wrp_tf {k : Nat} (h : k ≤ 32) (f g : Nat → F) {j : Nat} (hj : j < 2 ^ k) : tf k 1 (fun i => tf k 0 f i * tf k 0 g i) j = wrp (2 ^ k) 1 f g j := by
  have e := tf_tf h (d := 0) (.inl rfl) (wrp (2 ^ k) 1 f g) hj
  rw [show (1 : Int) - 0 = 1 by omega] at e
  rw [← e]
  exact tf_congr (fun i _ => (tf_wrp h f g i).symm) j
end Go.Proofs.Ytnmjomcpkckihaa.M
