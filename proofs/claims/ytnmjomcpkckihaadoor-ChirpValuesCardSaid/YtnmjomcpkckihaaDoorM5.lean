/- The polynomial of given roots. -/
import Derived.Test.YtnmjomcpkckihaaDoorM4
namespace Go.Proofs.YtnmjomcpkckihaaDoor.M
set_option autoImplicit false
set_option linter.unusedVariables false
set_option linter.unusedSimpArgs false

def one (i : Nat) : F := if i = 0 then 1 else 0
def lin (a : F) (i : Nat) : F := if i = 0 then -a else if i = 1 then 1 else 0
def frp : Nat → (Nat → F) → (Nat → F)
  | 0, _ => one
  | n + 1, z => cvl (frp n z) (lin (z n))
theorem one_out {i : Nat} (h : 1 ≤ i) : one i = 0 := if_neg (by omega)
theorem lin_out (a : F) {i : Nat} (h : 2 ≤ i) : lin a i = 0 := by unfold lin; rw [if_neg (by omega), if_neg (by omega)]
theorem frp_out (n : Nat) (z : Nat → F) : ∀ i, n + 1 ≤ i → frp n z i = 0 := by
  induction n with
  | zero => intro i hi; exact one_out (by omega)
  | succ n ih => intro i hi; exact cvl_out (n := n + 1) (m := 2) ih (fun j hj => lin_out _ hj) (by omega)
theorem cvl_lin_succ (f : Nat → F) (a : F) (i : Nat) : cvl f (lin a) (i + 1) = f i - f (i + 1) * a := by
  unfold cvl
  rw [Sm_succ, Sm_succ, Sm_zeros (fun j hj => by rw [lin_out a (show 2 ≤ i + 1 - j by omega)]; exact z1 _)]
  rw [show i + 1 - i = 1 by omega, Nat.sub_self]
  exact z2 _ _ _
where
  z1 (a : F) : a * 0 = 0 := by grind
  z2 (x y a : F) : 0 + x * lin a 1 + y * lin a 0 = x - y * a := by
    rw [show lin a 1 = 1 from rfl, show lin a 0 = -a from rfl]; grind
theorem cvl_lin_zero (f : Nat → F) (a : F) : cvl f (lin a) 0 = - (f 0 * a) := by
  unfold cvl
  rw [Sm_succ, Sm_zero, show lin a (0 - 0) = -a from rfl]; exact z _ _
where z (x a : F) : 0 + x * -a = -(x * a) := by grind
theorem frp_top (n : Nat) (z : Nat → F) : frp n z n = 1 := by
  induction n with
  | zero => rfl
  | succ n ih =>
    rw [show frp (n + 1) z = cvl (frp n z) (lin (z n)) from rfl, cvl_lin_succ, ih, frp_out n z (n + 1) (by omega)]
    exact k _
where k {R : Nat} [NeZero R] (a : Fin R) : 1 - 0 * a = 1 := by grind
theorem dg_frp (n m : Nat) (z : Nat → F) (h : n + 1 ≤ m) : dg m (frp n z) = n + 1 :=
  dg_unique h (fun i h1 _ => frp_out n z i h1) (fun _ => by rw [Nat.add_sub_cancel, frp_top]; exact one_ne_zero)
theorem tr_frp (n m : Nat) (z : Nat → F) (h : n + 1 ≤ m) : tr m (frp n z) = tab (n + 1) (frp n z) := by unfold tr; rw [dg_frp n m z h]
theorem frp_congr {n : Nat} {z z' : Nat → F} (h : ∀ i, i < n → z i = z' i) : frp n z = frp n z' := by
  induction n with
  | zero => rfl
  | succ n ih => rw [show frp (n + 1) z = cvl (frp n z) (lin (z n)) from rfl, ih (fun i hi => h i (by omega)), h n (by omega)]; rfl
theorem ev_one (n : Nat) (x : F) (hn : 1 ≤ n) : ev n one x = 1 := by
  rw [ev_ext x hn (fun i h1 _ => one_out h1)]
  exact k x
where k {R : Nat} [NeZero R] (x : Fin R) : 0 + 1 * x ^ 0 = 1 := by grind
theorem ev_lin (a x : F) : ev 2 (lin a) x = x - a := by
  unfold ev
  rw [Sm_succ, Sm_succ, Sm_zero, show lin a 0 = -a from rfl, show lin a 1 = 1 from rfl]; exact k a x
where k (a x : F) : 0 + -a * x ^ 0 + 1 * x ^ 1 = x - a := by grind
theorem ev_frp (n : Nat) (z : Nat → F) (x : F) : ev (n + 1) (frp n z) x = Pm n (fun i => x - z i) := by
  induction n with
  | zero => exact ev_one 1 x (by omega)
  | succ n ih =>
    rw [Pm_succ, ← ih, show frp (n + 1) z = cvl (frp n z) (lin (z n)) from rfl, ← ev_lin (z n) x,
      ← ev_mul (frp_out n z) (fun j hj => lin_out (z n) hj) x]
    exact (ev_ext x (by omega) (fun i h1 _ => cvl_out (n := n + 1) (m := 2) (frp_out n z) (fun j hj => lin_out (z n) hj) (by omega))).symm
theorem Pm_eq_zero {n j : Nat} {f : Nat → F} (hj : j < n) (h : f j = 0) : Pm n f = 0 := by
  induction n with
  | zero => omega
  | succ n ih =>
    rw [Pm_succ]
    by_cases e : j = n
    · rw [← e, h]; exact k1 _
    · rw [ih (by omega)]; exact k2 _
where
  k1 (a : F) : a * 0 = 0 := by grind
  k2 (a : F) : 0 * a = 0 := by grind
theorem Pm_ne_zero {n : Nat} {f : Nat → F} (h : ∀ i, i < n → f i ≠ 0) : Pm n f ≠ 0 := by
  induction n with
  | zero => exact one_ne_zero
  | succ n ih => exact mul_ne_zero (ih (fun i hi => h i (by omega))) (h n (by omega))
theorem co_pair (a : F) : co [un a, 1] = fun i => if i = 0 then a else if i = 1 then 1 else 0 := by
  funext i
  match i with
  | 0 => exact cv_un a
  | 1 => rw [if_neg (by omega), if_pos rfl]; exact cv_one
  | n + 2 => rw [if_neg (by omega), if_neg (by omega)]; exact co_out (Nat.le_add_left 2 n)
theorem co_lin (a : F) : co [un (-a), 1] = lin a := co_pair (-a)
theorem co_one : co [1] = one := by
  funext i
  match i with
  | 0 => exact cv_one
  | n + 1 => exact co_out (Nat.le_add_left 1 n)
theorem tab_one : tab 1 one = [1] := by unfold tab one; rw [show List.range 1 = [0] from rfl]; simp [un_one]
theorem co_tab_out {m : Nat} {f : Nat → F} (hf : ∀ i, m ≤ i → f i = 0) : co (tab m f) = f := by
  funext i
  rw [co_tab]
  by_cases h : i < m
  · rw [if_pos h]
  · rw [if_neg h, hf i (by omega)]
end Go.Proofs.YtnmjomcpkckihaaDoor.M
