/- Polynomials: coefficients as functions of places; degrees, trimmed rows, values, products, derivatives. -/
import Derived.Test.YtnmjomcpkckihaaDoorM3
namespace Go.Proofs.YtnmjomcpkckihaaDoor.M
set_option autoImplicit false
set_option linter.unusedVariables false
set_option linter.unusedSimpArgs false

/-- How many coefficients a polynomial of at most n has, without noughts at its end; the trimmed row. -/
def dg : Nat → (Nat → F) → Nat
  | 0, _ => 0
  | n + 1, f => if f n = 0 then dg n f else n + 1
def tr (n : Nat) (f : Nat → F) : List Int := tab (dg n f) f
theorem dg_le (n : Nat) (f : Nat → F) : dg n f ≤ n := by
  induction n with
  | zero => exact Nat.le_refl _
  | succ n ih => unfold dg; split <;> omega
theorem dg_out {n : Nat} {f : Nat → F} {i : Nat} (h : dg n f ≤ i) (hi : i < n) : f i = 0 := by
  induction n with
  | zero => omega
  | succ n ih =>
    unfold dg at h
    split at h
    · rename_i h0
      by_cases e : i = n
      · rw [e]; exact h0
      · exact ih h (by omega)
    · omega
theorem dg_last {n : Nat} {f : Nat → F} (h : 0 < dg n f) : f (dg n f - 1) ≠ 0 := by
  induction n with
  | zero => exact absurd h (by unfold dg; omega)
  | succ n ih =>
    unfold dg at h ⊢
    split
    · rename_i h0; rw [if_pos h0] at h; exact ih h
    · rename_i h0; exact h0
theorem dg_congr {n : Nat} {f g : Nat → F} (h : ∀ i, i < n → f i = g i) : dg n f = dg n g := by
  induction n with
  | zero => rfl
  | succ n ih => unfold dg; rw [h n (by omega), ih (fun i hi => h i (by omega))]
theorem dg_ext {n m : Nat} {f : Nat → F} (hnm : n ≤ m) (h : ∀ i, n ≤ i → i < m → f i = 0) : dg m f = dg n f := by
  induction m with
  | zero => obtain rfl : n = 0 := by omega
            rfl
  | succ m ih =>
    by_cases e : n = m + 1
    · rw [e]
    · rw [show dg (m + 1) f = if f m = 0 then dg m f else m + 1 from rfl, if_pos (h m (by omega) (by omega))]
      exact ih (by omega) (fun i h1 h2 => h i h1 (by omega))
theorem dg_unique {n m : Nat} {f : Nat → F} (hm : m ≤ n) (h1 : ∀ i, m ≤ i → i < n → f i = 0) (h2 : 0 < m → f (m - 1) ≠ 0) : dg n f = m := by
  rw [dg_ext hm h1]
  cases m with
  | zero => rfl
  | succ m => have h := h2 (by omega)
              rw [Nat.add_sub_cancel] at h
              unfold dg; rw [if_neg h]
theorem tr_length (n : Nat) (f : Nat → F) : (tr n f).length = dg n f := tab_length _ _
theorem tr_congr {n : Nat} {f g : Nat → F} (h : ∀ i, i < n → f i = g i) : tr n f = tr n g := by
  unfold tr; rw [dg_congr h]
  exact tab_congr (fun i hi => h i (by have := dg_le n g; omega))
theorem tr_ext {n m : Nat} {f : Nat → F} (hnm : n ≤ m) (h : ∀ i, n ≤ i → i < m → f i = 0) : tr m f = tr n f := by
  unfold tr; rw [dg_ext hnm h]
/-- Trimmed rows of the same polynomial are the same. -/
theorem tr_same {n m : Nat} {f g : Nat → F} (h : ∀ i, (if i < n then f i else 0) = (if i < m then g i else 0)) : tr n f = tr m g := by
  have hf : tr n f = tr (max n m) (fun i => if i < n then f i else 0) := by
    rw [tr_ext (f := fun i => if i < n then f i else 0) (Nat.le_max_left n m) (fun i h1 _ => if_neg (by omega))]
    exact tr_congr (fun i hi => (if_pos hi).symm)
  have hg : tr m g = tr (max n m) (fun i => if i < m then g i else 0) := by
    rw [tr_ext (f := fun i => if i < m then g i else 0) (Nat.le_max_right n m) (fun i h1 _ => if_neg (by omega))]
    exact tr_congr (fun i hi => (if_pos hi).symm)
  rw [hf, hg]
  exact tr_congr (fun i _ => h i)
theorem tr_eq {n m : Nat} {f g : Nat → F} (h : ∀ i, f i = g i) (hf : ∀ i, n ≤ i → f i = 0) (hg : ∀ i, m ≤ i → g i = 0) : tr n f = tr m g := by
  apply tr_same
  intro i
  by_cases h1 : i < n <;> by_cases h2 : i < m
  · rw [if_pos h1, if_pos h2, h i]
  · rw [if_pos h1, if_neg h2, h i, hg i (by omega)]
  · rw [if_neg h1, if_pos h2, ← h i, hf i (by omega)]
  · rw [if_neg h1, if_neg h2]
theorem co_tr {n : Nat} {f : Nat → F} (hf : ∀ i, n ≤ i → f i = 0) (i : Nat) : co (tr n f) i = f i := by
  unfold tr; rw [co_tab]
  by_cases h : i < dg n f
  · rw [if_pos h]
  · rw [if_neg h]
    by_cases h2 : i < n
    · exact (dg_out (by omega) h2).symm
    · exact (hf i (by omega)).symm
theorem co_tr' (n : Nat) (f : Nat → F) (i : Nat) : co (tr n f) i = if i < n then f i else 0 := by
  have h := co_tr (n := n) (f := fun i => if i < n then f i else 0) (fun i hi => if_neg (by omega)) i
  rw [← h]; congr 1
  exact tr_congr (fun i hi => (if_pos hi).symm)
theorem tr_tr (n : Nat) (f : Nat → F) : tr (dg n f) f = tr n f := (tr_ext (dg_le n f) (fun i h1 h2 => dg_out h1 h2)).symm
theorem tr_zero {n : Nat} {f : Nat → F} (h : ∀ i, i < n → f i = 0) : tr n f = [] := by
  rw [tr_ext (n := 0) (Nat.zero_le n) (fun i _ hi => h i hi)]; rfl

section
variable {R : Nat} [NeZero R]
/-- A polynomial's value; a product's coefficients; a derivative's. -/
def ev (n : Nat) (f : Nat → Fin R) (x : Fin R) : Fin R := Sm n (fun i => f i * x ^ i)
def cvl (f g : Nat → Fin R) (k : Nat) : Fin R := Sm (k + 1) (fun i => f i * g (k - i))
theorem ev_congr {n : Nat} {f g : Nat → Fin R} (x : Fin R) (h : ∀ i, i < n → f i = g i) : ev n f x = ev n g x := Sm_congr (fun i hi => by rw [h i hi])
theorem ev_ext {n m : Nat} {f : Nat → Fin R} (x : Fin R) (hnm : n ≤ m) (h : ∀ i, n ≤ i → i < m → f i = 0) : ev m f x = ev n f x :=
  Sm_ext hnm (fun i h1 h2 => by rw [h i h1 h2]; grind)
theorem ev_add (n : Nat) (f g : Nat → Fin R) (x : Fin R) : ev n (fun i => f i + g i) x = ev n f x + ev n g x := by
  unfold ev; rw [← Sm_add]; exact Sm_congr (fun i _ => by grind)
theorem ev_sub (n : Nat) (f g : Nat → Fin R) (x : Fin R) : ev n (fun i => f i - g i) x = ev n f x - ev n g x := by
  unfold ev; rw [← Sm_sub]; exact Sm_congr (fun i _ => by grind)
theorem ev_scale (n : Nat) (f : Nat → Fin R) (c x : Fin R) : ev n (fun i => f i * c) x = ev n f x * c := by
  unfold ev; rw [← Sm_mul_right]; exact Sm_congr (fun i _ => by grind)
theorem cvl_congr {k : Nat} {f f' g g' : Nat → Fin R} (h : ∀ i, i ≤ k → f i = f' i) (h2 : ∀ i, i ≤ k → g i = g' i) : cvl f g k = cvl f' g' k :=
  Sm_congr (fun i hi => by rw [h i (by omega), h2 (k - i) (by omega)])
theorem cvl_comm (f g : Nat → Fin R) (k : Nat) : cvl f g k = cvl g f k := by
  unfold cvl
  rw [Sm_rev]
  refine Sm_congr (fun i hi => ?_)
  rw [show k + 1 - 1 - i = k - i by omega, show k - (k - i) = i by omega]
  exact mul_comm' _ _
where mul_comm' (a b : Fin R) : a * b = b * a := by grind
theorem cvl_add_left (f f' g : Nat → Fin R) (k : Nat) : cvl (fun i => f i + f' i) g k = cvl f g k + cvl f' g k := by
  unfold cvl; rw [← Sm_add]; exact Sm_congr (fun i _ => by grind)
theorem cvl_add_right (f g g' : Nat → Fin R) (k : Nat) : cvl f (fun i => g i + g' i) k = cvl f g k + cvl f g' k := by
  unfold cvl; rw [← Sm_add]; exact Sm_congr (fun i _ => by grind)
theorem cvl_sub_left (f f' g : Nat → Fin R) (k : Nat) : cvl (fun i => f i - f' i) g k = cvl f g k - cvl f' g k := by
  unfold cvl; rw [← Sm_sub]; exact Sm_congr (fun i _ => by grind)
theorem cvl_sub_right (f g g' : Nat → Fin R) (k : Nat) : cvl f (fun i => g i - g' i) k = cvl f g k - cvl f g' k := by
  unfold cvl; rw [← Sm_sub]; exact Sm_congr (fun i _ => by grind)
theorem cvl_scale_left (f g : Nat → Fin R) (c : Fin R) (k : Nat) : cvl (fun i => f i * c) g k = cvl f g k * c := by
  unfold cvl; rw [← Sm_mul_right]; exact Sm_congr (fun i _ => by grind)
theorem cvl_scale_right (f g : Nat → Fin R) (c : Fin R) (k : Nat) : cvl f (fun i => g i * c) k = cvl f g k * c := by
  unfold cvl; rw [← Sm_mul_right]; exact Sm_congr (fun i _ => by grind)
/-- A sum over a triangle, by columns. -/
theorem Sm_tri (k : Nat) (a : Nat → Nat → Fin R) : Sm k (fun i => Sm (i + 1) (fun j => a i j)) = Sm k (fun j => Sm (k - j) (fun i => a (i + j) j)) := by
  induction k with
  | zero => rfl
  | succ k ih =>
    rw [Sm_succ, ih]
    rw [show Sm (k + 1) (fun j => Sm (k + 1 - j) (fun i => a (i + j) j)) = Sm (k + 1) (fun j => Sm (k - j) (fun i => a (i + j) j) + a k j) from
      Sm_congr (fun j hj => by rw [show k + 1 - j = (k - j) + 1 by omega, Sm_succ, show k - j + j = k by omega])]
    rw [Sm_add, Sm_succ (f := fun j => Sm (k - j) (fun i => a (i + j) j)), Nat.sub_self, Sm_zero]
    exact (add_zero' _ _).symm
where add_zero' (a b : Fin R) : a + 0 + b = a + b := by grind
theorem cvl_assoc (f g h : Nat → Fin R) (k : Nat) : cvl (cvl f g) h k = cvl f (cvl g h) k := by
  unfold cvl
  have e1 : Sm (k + 1) (fun i => Sm (i + 1) (fun j => f j * g (i - j)) * h (k - i)) = Sm (k + 1) (fun i => Sm (i + 1) (fun j => f j * g (i - j) * h (k - i))) :=
    Sm_congr (fun i _ => (Sm_mul_right _ _ _).symm)
  rw [e1, Sm_tri]
  refine Sm_congr (fun j hj => ?_)
  rw [← Sm_mul, show k + 1 - j = k - j + 1 by omega]
  refine Sm_congr (fun i hi => ?_)
  rw [show i + j - j = i by omega, show k - (i + j) = k - j - i by omega]
  exact mul_assoc' _ _ _
where mul_assoc' (a b c : Fin R) : a * b * c = a * (b * c) := by grind
/-- What a product is behind both lengths. -/
theorem cvl_out {n m : Nat} {f g : Nat → Fin R} (hf : ∀ i, n ≤ i → f i = 0) (hg : ∀ i, m ≤ i → g i = 0) {k : Nat} (hk : n + m ≤ k + 1) : cvl f g k = 0 := by
  refine Sm_zeros (fun i hi => ?_)
  by_cases h : n ≤ i
  · rw [hf i h]; exact zero_mul' _
  · rw [hg (k - i) (by omega)]; exact mul_zero' _
where
  zero_mul' (a : Fin R) : 0 * a = 0 := by grind
  mul_zero' (a : Fin R) : a * 0 = 0 := by grind
/-- A product's values. -/
theorem ev_mul {n m : Nat} {f g : Nat → Fin R} (hf : ∀ i, n ≤ i → f i = 0) (hg : ∀ i, m ≤ i → g i = 0) (x : Fin R) : ev (n + m) (cvl f g) x = ev n f x * ev m g x := by
  have e1 : ev (n + m) (cvl f g) x = Sm (n + m) (fun i => Sm (i + 1) (fun j => f j * x ^ j * (g (i - j) * x ^ (i - j)))) := by
    unfold ev cvl
    refine Sm_congr (fun i _ => ?_)
    rw [← Sm_mul_right]
    refine Sm_congr (fun j hj => ?_)
    have : x ^ i = x ^ j * x ^ (i - j) := by rw [← pow_add']; congr 1; omega
    rw [this]; exact four _ _ _ _
  rw [e1, Sm_tri, Sm_ext (Nat.le_add_right n m) (fun j h1 h2 => Sm_zeros (fun i _ => by rw [hf j h1]; exact zero3 _ _))]
  unfold ev
  rw [← Sm_mul_right]
  refine Sm_congr (fun j hj => ?_)
  rw [← Sm_mul, Sm_ext (show m ≤ n + m - j by omega) (fun i h1 h2 => by rw [show i + j - j = i by omega, hg i h1]; exact zero4 _ _)]
  exact Sm_congr (fun i _ => by rw [show i + j - j = i by omega])
where
  four (a b c d : Fin R) : a * b * (c * d) = a * c * (b * d) := by grind
  zero3 (a b : Fin R) : 0 * a * b = 0 := by grind
  zero4 (a b : Fin R) : a * (0 * b) = 0 := by grind
/-- Horner's rule: what is told from a place on. -/
def hn (n : Nat) (f : Nat → Fin R) (x : Fin R) (i : Nat) : Fin R := Sm (n - i) (fun j => f (i + j) * x ^ j)
theorem hn_top (n : Nat) (f : Nat → Fin R) (x : Fin R) : hn n f x n = 0 := by unfold hn; rw [Nat.sub_self]; rfl
theorem hn_zero (n : Nat) (f : Nat → Fin R) (x : Fin R) : hn n f x 0 = ev n f x := by
  unfold hn ev; rw [Nat.sub_zero]; exact Sm_congr (fun i _ => by rw [Nat.zero_add])
theorem hn_step {n : Nat} (f : Nat → Fin R) (x : Fin R) {i : Nat} (h : i < n) : hn n f x i = hn n f x (i + 1) * x + f i := by
  unfold hn
  rw [show n - i = (n - (i + 1)) + 1 by omega, Sm_first, Nat.add_zero, ← Sm_mul_right]
  have e : Sm (n - (i + 1)) (fun j => f (i + (j + 1)) * x ^ (j + 1)) = Sm (n - (i + 1)) (fun j => f (i + 1 + j) * x ^ j * x) :=
    Sm_congr (fun j _ => by rw [show i + (j + 1) = i + 1 + j by omega]; exact pw _ _ _)
  rw [e]; exact fin _ _ _
where
  pw (a x : Fin R) (j : Nat) : a * x ^ (j + 1) = a * x ^ j * x := by grind
  fin (a s x : Fin R) : a * x ^ 0 + s = s + a := by grind
end

/-- A polynomial with as many unlike roots as places is 0 everywhere. -/
theorem ev_linear (n : Nat) (f : Nat → F) (a x : F) : ev (n + 1) f x - ev (n + 1) f a = (x - a) * ev n (fun i => hn (n + 1) f a (i + 1)) x := by
  have key : ∀ m, m ≤ n → Sm m (fun i => f i * x ^ i) + hn (n + 1) f a m * x ^ m = ev (n + 1) f a + (x - a) * Sm m (fun i => hn (n + 1) f a (i + 1) * x ^ i) := by
    intro m
    induction m with
    | zero => intro _; rw [Sm_zero, Sm_zero, hn_zero]; exact k0 _ _ _
    | succ m ih =>
      intro hm
      have h := ih (by omega)
      have hs := hn_step f a (show m < n + 1 by omega)
      rw [Sm_succ, Sm_succ]
      rw [hs] at h
      exact k1 _ _ _ _ _ _ _ m h
  have h := key n (Nat.le_refl n)
  have hl : hn (n + 1) f a n = f n := by
    rw [hn_step f a (by omega), hn_top]; exact k2 _ _
  rw [hl] at h
  unfold ev at *
  rw [Sm_succ (f := fun i => f i * x ^ i), h]
  exact k3 _ _
where
  k0 (a x e : F) : 0 + e * x ^ 0 = e + (x - a) * 0 := by grind
  k1 (s h f0 a x e t : F) (m : Nat) (H : s + (h * a + f0) * x ^ m = e + (x - a) * t) : s + f0 * x ^ m + h * x ^ (m + 1) = e + (x - a) * (t + h * x ^ m) := by grind
  k2 (a f0 : F) : 0 * a + f0 = f0 := by grind
  k3 (e t : F) : e + t - e = t := by grind
theorem roots_zero (n : Nat) : ∀ (f : Nat → F) (z : Nat → F), (∀ i j, i < n → j < n → i ≠ j → z i ≠ z j) → (∀ i, i < n → ev n f (z i) = 0) → ∀ i, i < n → f i = 0 := by
  induction n with
  | zero => intro f z _ _ i hi; omega
  | succ n ih =>
    intro f z hz hr
    have hlin := fun x => ev_linear n f (z n) x
    have hq : ∀ i, i < n → ev n (fun i => hn (n + 1) f (z n) (i + 1)) (z i) = 0 := by
      intro i hi
      have h := hlin (z i)
      rw [hr i (by omega), hr n (by omega)] at h
      have h0 : (z i - z n) * ev n (fun i => hn (n + 1) f (z n) (i + 1)) (z i) = 0 := by rw [← h]; exact sub_self' 0
      rcases mul_eq_zero.1 h0 with e | e
      · exact absurd (eq_of_sub e) (hz i n (by omega) (by omega) (by omega))
      · exact e
    have h0 := ih (fun i => hn (n + 1) f (z n) (i + 1)) z (fun i j hi hj => hz i j (by omega) (by omega)) hq
    have hh : ∀ i, i ≤ n + 1 → hn (n + 1) f (z n) i = 0 := by
      intro i hi
      by_cases e0 : i = 0
      · rw [e0, hn_zero]; exact hr n (by omega)
      · by_cases e1 : i = n + 1
        · rw [e1, hn_top]
        · have := h0 (i - 1) (by omega)
          rw [show i - 1 + 1 = i by omega] at this; exact this
    intro i hi
    have hs := hn_step f (z n) hi
    rw [hh i (by omega), hh (i + 1) (by omega)] at hs
    rw [hs]; exact r1 _ _
where r1 (a f0 : F) : f0 = 0 * a + f0 := by grind
theorem co_trF {n : Nat} {f : Nat → F} (hf : ∀ i, n ≤ i → f i = 0) : co (tr n f) = f := funext (co_tr hf)
theorem ev_tr (n : Nat) (f : Nat → F) (x : F) : ev (tr n f).length (co (tr n f)) x = ev n f x := by
  rw [tr_length, ev_congr (f := co (tr n f)) (g := f) x (fun i hi => by show co (tab (dg n f) f) i = f i; exact co_tab_lt hi)]
  exact (ev_ext x (dg_le n f) (fun i h1 h2 => dg_out h1 h2)).symm
theorem row_out (l : List Int) : ∀ i, l.length ≤ i → co l i = 0 := fun i hi => co_out hi
theorem tr_len_le (n : Nat) (f : Nat → F) : (tr n f).length ≤ n := by rw [tr_length]; exact dg_le n f
end Go.Proofs.YtnmjomcpkckihaaDoor.M
