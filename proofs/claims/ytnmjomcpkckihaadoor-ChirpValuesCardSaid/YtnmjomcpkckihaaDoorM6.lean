/- Division by a linear polynomial and by any one; derivatives; the polynomial through points. -/
import Derived.Test.YtnmjomcpkckihaaDoorM5
namespace Go.Proofs.YtnmjomcpkckihaaDoor.M
set_option autoImplicit false
set_option linter.unusedVariables false
set_option linter.unusedSimpArgs false

section
variable {R : Nat} [NeZero R]
theorem hn_out {n : Nat} (f : Nat → Fin R) (x : Fin R) {i : Nat} (h : n ≤ i) : hn n f x i = 0 := by
  unfold hn; rw [show n - i = 0 by omega]; rfl
theorem hn_step' {n : Nat} {f : Nat → Fin R} (hf : ∀ i, n ≤ i → f i = 0) (x : Fin R) (i : Nat) : hn n f x i = hn n f x (i + 1) * x + f i := by
  by_cases h : i < n
  · exact hn_step f x h
  · rw [hn_out f x (show n ≤ i by omega), hn_out f x (show n ≤ i + 1 by omega), hf i (by omega)]; exact k x
where k (x : Fin R) : 0 = 0 * x + 0 := by grind
end
theorem lin_divide {n : Nat} {f : Nat → F} (hf : ∀ i, n ≤ i → f i = 0) (a : F) (i : Nat) :
    cvl (fun i => hn n f a (i + 1)) (lin a) i + (if i = 0 then ev n f a else 0) = f i := by
  cases i with
  | zero =>
    rw [cvl_lin_zero, if_pos rfl, ← hn_zero, hn_step' hf a 0]; exact k1 _ _ _
  | succ i =>
    rw [cvl_lin_succ, if_neg (by omega), hn_step' hf a (i + 1)]; exact k2 _ _ _
where
  k1 {R : Nat} [NeZero R] (h a f : Fin R) : -(h * a) + (h * a + f) = f := by grind
  k2 {R : Nat} [NeZero R] (h a f : Fin R) : h * a + f - h * a + 0 = f := by grind
def der (f : Nat → F) (i : Nat) : F := f (i + 1) * cv ((i + 1 : Nat) : Int)
theorem der_out {n : Nat} {f : Nat → F} (hf : ∀ i, n ≤ i → f i = 0) : ∀ i, n - 1 ≤ i → der f i = 0 := by
  intro i hi; unfold der; rw [hf (i + 1) (by omega)]; exact k _
where k {R : Nat} [NeZero R] (x : Fin R) : 0 * x = 0 := by grind
theorem cv_succ (i : Nat) : cv ((i + 1 : Nat) : Int) = cv (i : Int) + 1 := by
  rw [show (((i + 1 : Nat)) : Int) = (i : Int) + 1 by omega, cv_add, cv_one]
theorem Sm_const (n : Nat) (c : F) : Sm n (fun _ => c) = c * cv (n : Int) := by
  induction n with
  | zero => rw [Sm_zero, show cv ((0 : Nat) : Int) = 0 from rfl]; exact k0 c
  | succ n ih => rw [Sm_succ, ih, cv_succ]; exact k1 _ _
where
  k0 {R : Nat} [NeZero R] (c : Fin R) : 0 = c * 0 := by grind
  k1 {R : Nat} [NeZero R] (c x : Fin R) : c * x + c = c * (x + 1) := by grind
/-- A derivative's value is that of the quotient by x - a, at a. -/
theorem ev_der (n : Nat) (f : Nat → F) (a : F) : ev n (der f) a = ev n (fun i => hn (n + 1) f a (i + 1)) a := by
  have h := Sm_tri n (fun m _ => f (m + 1) * a ^ m)
  have e1 : Sm n (fun i => Sm (i + 1) (fun _ => f (i + 1) * a ^ i)) = ev n (der f) a := by
    refine Sm_congr (fun i _ => ?_)
    rw [Sm_const]; exact k0 _ _ _
  have e2 : Sm n (fun j => Sm (n - j) (fun i => f (i + j + 1) * a ^ (i + j))) = ev n (fun i => hn (n + 1) f a (i + 1)) a := by
    refine Sm_congr (fun j _ => ?_)
    show _ = hn (n + 1) f a (j + 1) * a ^ j
    unfold hn
    rw [← Sm_mul_right, show n + 1 - (j + 1) = n - j by omega]
    refine Sm_congr (fun i _ => ?_)
    rw [show j + 1 + i = i + j + 1 by omega, pow_add']; exact k1 _ _ _
  rw [← e1, h, e2]
where
  k0 {R : Nat} [NeZero R] (f p c : Fin R) : f * p * c = f * c * p := by grind
  k1 {R : Nat} [NeZero R] (f p q : Fin R) : f * (p * q) = f * p * q := by grind
/-- The rule of products. -/
theorem der_cvl (f g : Nat → F) (k : Nat) : der (cvl f g) k = cvl (der f) g k + cvl f (der g) k := by
  have h1 : cvl (der f) g k = Sm (k + 2) (fun i => cv (i : Int) * (f i * g (k + 1 - i))) := by
    rw [Sm_first, show cv ((0 : Nat) : Int) = 0 from rfl]
    unfold cvl
    rw [k1]
    refine Sm_congr (fun i hi => ?_)
    unfold der
    rw [show k + 1 - (i + 1) = k - i by omega]; exact k2 _ _ _
  have h2 : cvl f (der g) k = Sm (k + 2) (fun i => cv ((k + 1 - i : Nat) : Int) * (f i * g (k + 1 - i))) := by
    rw [Sm_succ, show k + 1 - (k + 1) = 0 by omega, show cv ((0 : Nat) : Int) = 0 from rfl]
    unfold cvl
    rw [k3]
    refine Sm_congr (fun i hi => ?_)
    unfold der
    rw [show k - i + 1 = k + 1 - i by omega]; exact k4 _ _ _
  rw [h1, h2, ← Sm_add]
  unfold der cvl
  rw [← Sm_mul_right]
  refine Sm_congr (fun i hi => ?_)
  have : (((k + 1 : Nat)) : Int) = (i : Int) + ((k + 1 - i : Nat) : Int) := by omega
  rw [this, cv_add]; exact k5 _ _ _
where
  k1 {R : Nat} [NeZero R] {a s : Fin R} : 0 * a + s = s := by grind
  k2 {R : Nat} [NeZero R] (a c b : Fin R) : a * c * b = c * (a * b) := by grind
  k3 {R : Nat} [NeZero R] {a s : Fin R} : s + 0 * a = s := by grind
  k4 {R : Nat} [NeZero R] (a b c : Fin R) : a * (b * c) = c * (a * b) := by grind
  k5 {R : Nat} [NeZero R] (a c d : Fin R) : a * (c + d) = c * a + d * a := by grind
theorem der_lin (a : F) : der (lin a) = one := by
  funext i
  unfold der
  match i with
  | 0 => rw [show lin a (0 + 1) = 1 from rfl, show cv (((0 + 1 : Nat)) : Int) = cv 1 from rfl, cv_one]; exact k1 1
  | i + 1 => rw [lin_out a (by omega), one_out (by omega)]; exact k0 _
where
  k0 {R : Nat} [NeZero R] (a : Fin R) : 0 * a = 0 := by grind
  k1 {R : Nat} [NeZero R] (a : Fin R) : 1 * 1 = (1 : Fin R) := by grind
theorem cvl_one (f : Nat → F) (k : Nat) : cvl f one k = f k := by
  unfold cvl
  rw [Sm_succ, Sm_zeros (fun i hi => by rw [one_out (show 1 ≤ k - i by omega)]; exact k0 _), Nat.sub_self, show one 0 = 1 from rfl]
  exact k1 _
where
  k0 {R : Nat} [NeZero R] (a : Fin R) : a * 0 = 0 := by grind
  k1 {R : Nat} [NeZero R] (a : Fin R) : 0 + a * 1 = a := by grind
theorem cvl_one_left (f : Nat → F) (k : Nat) : cvl one f k = f k := by rw [cvl_comm, cvl_one]
/-- The derivative of the polynomial of roots, at one of them. -/
theorem ev_der_frp (n : Nat) (z : Nat → F) (x : F) : ev (n + 1) (der (frp (n + 1) z)) x = ev n (der (frp n z)) x * (x - z n) + Pm n (fun i => x - z i) := by
  have e : ev (n + 1) (der (frp (n + 1) z)) x = ev (n + 1) (fun i => cvl (der (frp n z)) (lin (z n)) i + frp n z i) x := by
    refine ev_congr x (fun i _ => ?_)
    rw [show frp (n + 1) z = cvl (frp n z) (lin (z n)) from rfl, der_cvl, der_lin, cvl_one]
  rw [e, ev_add, ev_frp]
  congr 1
  have h := ev_mul (n := n) (m := 2) (f := der (frp n z)) (g := lin (z n)) (fun i hi => der_out (frp_out n z) i hi) (fun j hj => lin_out (z n) hj) x
  rw [ev_lin] at h
  rw [← h]
  exact (ev_ext x (by omega) (fun i h1 _ => cvl_out (n := n) (m := 2) (fun i hi => der_out (frp_out n z) i hi) (fun j hj => lin_out (z n) hj) (by omega))).symm
theorem slope (n : Nat) (z : Nat → F) (i : Nat) (hi : i < n) : ev n (der (frp n z)) (z i) = Pm n (fun j => if j = i then 1 else z i - z j) := by
  induction n with
  | zero => omega
  | succ n ih =>
    rw [ev_der_frp, Pm_succ]
    by_cases e : i = n
    · subst e
      rw [if_pos rfl, sub_self', Pm_congr (f := fun j => if j = i then 1 else z i - z j) (g := fun j => z i - z j) (fun j hj => if_neg (by omega))]
      exact k0 _ _
    · rw [ih (by omega), Pm_eq_zero (f := fun j => z i - z j) (j := i) (by omega) (sub_self' (z i)), if_neg (Ne.symm e)]
      exact k1 _ _
where
  k0 {R : Nat} [NeZero R] (a b : Fin R) : a * 0 + b = b * 1 := by grind
  k1 {R : Nat} [NeZero R] (a b : Fin R) : a * b + 0 = a * b := by grind
theorem slope_ne {n : Nat} {z : Nat → F} (h : ∀ i j, i < n → j < n → i ≠ j → z i ≠ z j) {i : Nat} (hi : i < n) : ev n (der (frp n z)) (z i) ≠ 0 := by
  rw [slope n z i hi]
  refine Pm_ne_zero (fun j hj => ?_)
  split
  · exact one_ne_zero
  · rename_i hne
    exact fun e => h i j hi hj (Ne.symm hne) (eq_of_sub e)
theorem slope_zero {n : Nat} {z : Nat → F} {i j : Nat} (hi : i < n) (hj : j < n) (hne : i ≠ j) (h : z i = z j) : ev n (der (frp n z)) (z i) = 0 := by
  rw [slope n z i hi]
  exact Pm_eq_zero hj (by rw [if_neg (Ne.symm hne), h]; exact sub_self' _)
/-- The polynomial of roots, divided by x - z i: its values at all roots. -/
def quo1 (n : Nat) (z : Nat → F) (i : Nat) (t : Nat) : F := hn (n + 1) (frp n z) (z i) (t + 1)
theorem quo1_out (n : Nat) (z : Nat → F) (i : Nat) : ∀ t, n ≤ t → quo1 n z i t = 0 := fun t ht => hn_out _ _ (by omega)
theorem ev_frp_root {n : Nat} (z : Nat → F) {i : Nat} (hi : i < n) : ev (n + 1) (frp n z) (z i) = 0 := by
  rw [ev_frp]; exact Pm_eq_zero hi (sub_self' _)
theorem quo1_other {n : Nat} {z : Nat → F} {i j : Nat} (hi : i < n) (hj : j < n) (hne : z j ≠ z i) : ev n (quo1 n z i) (z j) = 0 := by
  have h := ev_linear n (frp n z) (z i) (z j)
  rw [ev_frp_root z hi, ev_frp_root z hj, sub_self'] at h
  rcases mul_eq_zero.1 h.symm with e | e
  · exact absurd (eq_of_sub e) hne
  · exact e
theorem quo1_self (n : Nat) (z : Nat → F) (i : Nat) : ev n (quo1 n z i) (z i) = ev n (der (frp n z)) (z i) := (ev_der n (frp n z) (z i)).symm
/-- The interpolating polynomial, and its values. -/
def thr (n : Nat) (z y : Nat → F) (m : Nat) (t : Nat) : F := Sm m (fun i => quo1 n z i t * (y i * inv (ev n (der (frp n z)) (z i))))
theorem thr_out (n : Nat) (z y : Nat → F) (m : Nat) : ∀ t, n ≤ t → thr n z y m t = 0 := fun t ht => Sm_zeros (fun i _ => by rw [quo1_out n z i t ht]; exact k _)
where k {R : Nat} [NeZero R] (a : Fin R) : 0 * a = 0 := by grind
theorem ev_thr (n : Nat) (z y : Nat → F) (m : Nat) (x : F) : ev n (thr n z y m) x = Sm m (fun i => ev n (quo1 n z i) x * (y i * inv (ev n (der (frp n z)) (z i)))) := by
  unfold thr ev
  simp only [← Sm_mul_right]
  rw [Sm_swap]
  refine Sm_congr (fun i _ => Sm_congr (fun t _ => ?_))
  exact k _ _ _
where k {R : Nat} [NeZero R] (a b c : Fin R) : a * b * c = a * c * b := by grind
theorem thr_values {n : Nat} {z y : Nat → F} (h : ∀ i j, i < n → j < n → i ≠ j → z i ≠ z j) {j : Nat} (hj : j < n) : ev n (thr n z y n) (z j) = y j := by
  rw [ev_thr, Sm_one hj (fun i hi hne => by rw [quo1_other hi hj (h j i hj hi (Ne.symm hne))]; exact k0 _), quo1_self]
  have hs := mul_inv (slope_ne h hj)
  exact k1 _ _ _ hs
where
  k0 {R : Nat} [NeZero R] (a : Fin R) : 0 * a = 0 := by grind
  k1 {R : Nat} [NeZero R] (a b c : Fin R) (h : a * b = 1) : a * (c * b) = c := by grind
end Go.Proofs.YtnmjomcpkckihaaDoor.M
