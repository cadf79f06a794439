/- Series: products cut off, inverses by doubling. -/
import Derived.Test.YtnmjomcpkckihaaDoorM14
namespace Go.Proofs.YtnmjomcpkckihaaDoor.M
set_option autoImplicit false
set_option linter.unusedVariables false
set_option linter.unusedSimpArgs false
section
variable {R : Nat} [NeZero R]
theorem cvl_first (f g : Nat → Fin R) (k : Nat) : cvl f g k = f 0 * g k + Sm k (fun i => f (i + 1) * g (k - (i + 1))) := by
  unfold cvl
  rw [Sm_first, Nat.sub_zero]
/-- What vanishes below a, times what vanishes below b, vanishes below a + b. -/
theorem cvl_low {a b : Nat} {f g : Nat → Fin R} (hf : ∀ i, i < a → f i = 0) (hg : ∀ i, i < b → g i = 0) {k : Nat} (hk : k < a + b) : cvl f g k = 0 := by
  refine Sm_zeros (fun i hi => ?_)
  rcases Nat.lt_or_ge i a with h | h
  · rw [hf i h]; exact k1 _
  · rw [hg (k - i) (by omega)]; exact k2 _
where
  k1 (x : Fin R) : 0 * x = 0 := by grind
  k2 (x : Fin R) : x * 0 = 0 := by grind
end
theorem cvl_upto {n : Nat} {f f' g g' : Nat → F} (h : ∀ i, i < n → f i = f' i) (h2 : ∀ i, i < n → g i = g' i) {k : Nat} (hk : k < n) : cvl f g k = cvl f' g' k := cvl_congr (fun i hi => h i (by omega)) (fun i hi => h2 i (by omega))
/-- Two, as a series. -/
def ptwo : Nat → F := fun i => if i = 0 then 2 else 0
theorem newton {a m : Nat} (hm : m ≤ 2 * a) {P S U : Nat → F} (hS : ∀ i, i < a → cvl P S i = pone i) (hU : ∀ i, i < m → U i = pone i + (pone i - cvl P S i)) {k : Nat} (hk : k < m) : cvl P (cvl S U) k = pone k := by
  rw [← cvl_assoc]
  obtain ⟨E, hE⟩ : ∃ E : Nat → F, ∀ i, E i = pone i - cvl P S i := ⟨_, fun _ => rfl⟩
  have e1 : ∀ i, i < m → cvl P S i = pone i - E i := fun i _ => by rw [hE]; exact k1 _ _
  have e2 : ∀ i, i < m → U i = pone i + E i := fun i hi => by rw [hE]; exact hU i hi
  have low : ∀ i, i < a → E i = 0 := fun i hi => by rw [hE, hS i hi]; exact k2 _
  rw [cvl_upto (f' := fun i => pone i - E i) (g' := fun i => pone i + E i) e1 e2 hk, cvl_sub_left, cvl_add_right, cvl_add_right, pone_cvl, pone_cvl, cvl_pone, cvl_low low low (by omega)]
  exact k3 _ _
where
  k1 {R : Nat} [NeZero R] (x y : Fin R) : y = x - (x - y) := by grind
  k2 {R : Nat} [NeZero R] (x : Fin R) : x - x = 0 := by grind
  k3 {R : Nat} [NeZero R] (x y : Fin R) : x + y - (y + 0) = x := by grind
/-- An inverse is one alone. -/
theorem inv_only {n : Nat} {P S S' : Nat → F} (h0 : P 0 ≠ 0) (h : ∀ i, i < n → cvl P S i = cvl P S' i) : ∀ i, i < n → S i = S' i := by
  intro i
  induction i using Nat.strongRecOn with
  | ind i ih =>
    intro hi
    have e := h i hi
    rw [cvl_first, cvl_first] at e
    have et : Sm i (fun j => P (j + 1) * S (i - (j + 1))) = Sm i (fun j => P (j + 1) * S' (i - (j + 1))) := Sm_congr (fun j hj => by rw [ih (i - (j + 1)) (by omega) (by omega)])
    rw [et] at e
    exact cancel h0 (k1 _ _ _ e)
where
  k1 {R : Nat} [NeZero R] (a b c : Fin R) (h : a + c = b + c) : a = b := by
    have : a + c - c = b + c - c := by rw [h]
    have e1 : a + c - c = a := by grind
    have e2 : b + c - c = b := by grind
    rw [e1, e2] at this; exact this
theorem co_tab_upto {n : Nat} (f : Nat → F) : ∀ i, i < n → co (tab n f) i = f i := fun i hi => co_tab_lt hi
end Go.Proofs.YtnmjomcpkckihaaDoor.M
