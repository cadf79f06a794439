/- Series: logarithms and exponentials, cut off. -/
import Derived.Test.YtnmjomcpkckihaaDoorM15
namespace Go.Proofs.YtnmjomcpkckihaaDoor.M
set_option autoImplicit false
set_option linter.unusedVariables false
set_option linter.unusedSimpArgs false
theorem cv_small {k : Nat} (h0 : 0 < k) (h : k < 18446744069414584321) : cv (k : Int) ≠ 0 := fun e => by
  have := cv_eq_zero.1 e
  omega
/-- S is, of so many words, what P is the logarithm of. -/
def expOk (P S : Nat → F) (n : Nat) : Prop := S 0 = 1 ∧ ∀ i, i + 1 < n → der S i = cvl (der P) S i
theorem log_of {P S I : Nat → F} {n : Nat} (hS : expOk P S n) (hI : ∀ i, i < n → cvl S I i = pone i) {i : Nat} (hi : i + 1 < n) : cvl (der S) I i = der P i := by
  rw [cvl_upto (n := i + 1) (f' := cvl (der P) S) (g' := I) (fun j hj => hS.2 j (by omega)) (fun _ _ => rfl) (Nat.lt_succ_self i), cvl_assoc,
    cvl_upto (n := i + 1) (f' := der P) (g' := pone) (fun _ _ => rfl) (fun j hj => hI j (by omega)) (Nat.lt_succ_self i), cvl_pone]
theorem der_sub (f g : Nat → F) (i : Nat) : der (fun j => f j - g j) i = der f i - der g i := by
  unfold der
  exact k1 _ _ _
where
  k1 {R : Nat} [NeZero R] (x y c : Fin R) : (x - y) * c = x * c - y * c := by grind
theorem exp_step {P S I Lg U : Nat → F} {a m : Nat} (h0 : 0 < m) (hm : m ≤ 2 * a) (ham : a ≤ m) (hP : m < 18446744069414584321) (hS : expOk P S a) (hI : ∀ i, i < m → cvl S I i = pone i)
    (hL0 : Lg 0 = 0) (hL : ∀ i, i + 1 < m → der Lg i = cvl (der S) I i) (hP0 : P 0 = 0) (hU : ∀ i, i < m → U i = pone i + (P i - Lg i)) : expOk P (cvl S U) m := by
  obtain ⟨G, hG⟩ : ∃ G : Nat → F, ∀ i, G i = P i - Lg i := ⟨_, fun _ => rfl⟩
  have hU' : ∀ i, i < m → U i = pone i + G i := fun i hi => by rw [hG]; exact hU i hi
  have hdG : ∀ i, der G i = der P i - der Lg i := fun i => by
    rw [← der_sub]; unfold der; rw [hG]
  have hdU : ∀ i, i + 1 < m → der U i = der G i := fun i hi => by
    unfold der
    rw [hU' _ hi, show pone (i + 1) = 0 from if_neg (by omega)]
    exact k1 _ _
  have low : ∀ i, i < a → G i = 0
    | 0, _ => by rw [hG, hL0, hP0]; exact k2 _
    | i + 1, hi => by
      have e := hdG i
      rw [hL i (by omega), log_of hS (fun j hj => hI j (by omega)) hi] at e
      have e2 : cv ((i + 1 : Nat) : Int) * G (i + 1) = cv ((i + 1 : Nat) : Int) * 0 := by
        have e3 : der G i = G (i + 1) * cv ((i + 1 : Nat) : Int) := rfl
        rw [e3] at e
        exact k3 _ _ _ e
      exact cancel (cv_small (by omega) (by omega)) e2
  have hdS : ∀ i, i + 1 < m → cvl S (der Lg) i = der S i := fun i hi => by
    rw [cvl_upto (n := i + 1) (f' := S) (g' := cvl (der S) I) (fun _ _ => rfl) (fun j hj => hL j (by omega)) (Nat.lt_succ_self i), cvl_comm, cvl_assoc,
      cvl_upto (n := i + 1) (f' := der S) (g' := pone) (fun _ _ => rfl) (fun j hj => by rw [cvl_comm]; exact hI j (by omega)) (Nat.lt_succ_self i), cvl_pone]
  refine ⟨?_, fun i hi => ?_⟩
  · show Sm 1 (fun i => S i * U (0 - i)) = 1
    rw [Sm_succ, Sm_zero, hS.1, hU 0 h0, hP0, hL0, show pone 0 = 1 from if_pos rfl]
    exact k4 _
  · rw [der_cvl, cvl_upto (n := i + 1) (f' := der S) (g' := fun j => pone j + G j) (fun _ _ => rfl) (fun j hj => hU' j (by omega)) (Nat.lt_succ_self i), cvl_add_right, cvl_pone,
      cvl_upto (n := i + 1) (f' := S) (g' := fun j => der P j - der Lg j) (fun _ _ => rfl) (fun j hj => by rw [hdU j (by omega), hdG]) (Nat.lt_succ_self i), cvl_sub_right, hdS i hi,
      ← cvl_assoc, cvl_upto (n := i + 1) (f := cvl (der P) S) (f' := cvl (der P) S) (g := U) (g' := fun j => pone j + G j) (fun _ _ => rfl) (fun j hj => hU' j (by omega)) (Nat.lt_succ_self i), cvl_add_right, cvl_pone, cvl_comm S (der P)]
    have z : cvl (fun j => der S j - cvl (der P) S j) G i = 0 := cvl_low (a := a - 1) (b := a) (fun j hj => by rw [hS.2 j (by omega)]; exact k2 _) low (by omega)
    rw [cvl_sub_left] at z
    exact k5 _ _ _ _ z
where
  k1 {R : Nat} [NeZero R] (x c : Fin R) : (0 + x) * c = x * c := by grind
  k2 {R : Nat} [NeZero R] (x : Fin R) : x - x = 0 := by grind
  k3 {R : Nat} [NeZero R] (x c y : Fin R) (h : x * c = y - y) : c * x = c * 0 := by grind
  k4 {R : Nat} [NeZero R] (x : Fin R) : 0 + 1 * (1 + (x - x)) = (1 : Fin R) := by grind
  k5 {R : Nat} [NeZero R] (s x y p : Fin R) (h : x - y = 0) : s + x + (p - s) = p + y := by grind
/-- What has such a derivative is one alone. -/
theorem exp_only {A E E' : Nat → F} {n : Nat} (hn : n < 18446744069414584321) (h0 : 0 < n → E 0 = E' 0) (h : ∀ i, i + 1 < n → der E i = cvl A E i) (h' : ∀ i, i + 1 < n → der E' i = cvl A E' i) : ∀ i, i < n → E i = E' i := by
  intro i
  induction i using Nat.strongRecOn with
  | ind i ih =>
    intro hi
    cases i with
    | zero => exact h0 hi
    | succ i =>
      have e := h i hi
      rw [cvl_upto (n := i + 1) (f' := A) (g' := E') (fun _ _ => rfl) (fun j hj => ih j hj (by omega)) (Nat.lt_succ_self i), ← h' i hi] at e
      have e2 : cv ((i + 1 : Nat) : Int) * E (i + 1) = cv ((i + 1 : Nat) : Int) * E' (i + 1) := by
        unfold der at e
        exact k1 _ _ _ e
      exact cancel (cv_small (by omega) (by omega)) e2
where
  k1 {R : Nat} [NeZero R] (x y c : Fin R) (h : x * c = y * c) : c * x = c * y := by grind
/-- What has so many words of a derivative, and a first word, is one alone. -/
theorem der_only {E E' : Nat → F} {n : Nat} (hn : n < 18446744069414584321) (h0 : 0 < n → E 0 = E' 0) (h : ∀ i, i + 1 < n → der E i = der E' i) : ∀ i, i < n → E i = E' i
  | 0, hi => h0 hi
  | i + 1, hi => by
    have e := h i hi
    unfold der at e
    exact cancel (cv_small (by omega) (by omega)) (exp_only.k1 _ _ _ e)
/-- The series with that derivative, from 0. -/
def itg (f : Nat → F) (i : Nat) : F := if i = 0 then 0 else f (i - 1) * inv (cv (i : Int))
theorem itg_zero (f : Nat → F) : itg f 0 = 0 := if_pos rfl
theorem der_itg (f : Nat → F) {i : Nat} (h : i + 1 < 18446744069414584321) : der (itg f) i = f i := by
  unfold der itg
  rw [if_neg (by omega), Nat.add_sub_cancel]
  have e := inv_mul (cv_small (k := i + 1) (by omega) h)
  exact k1 _ _ _ e
where
  k1 {R : Nat} [NeZero R] (x c d : Fin R) (h : d * c = 1) : x * d * c = x := by grind
end Go.Proofs.YtnmjomcpkckihaaDoor.M
