/- Sums and products over the first places of a function; rows as tabulated functions. -/
import Derived.Test.YtnmjomcpkckihaaDoorM1
namespace Go.Proofs.YtnmjomcpkckihaaDoor.M
set_option autoImplicit false
set_option linter.unusedVariables false
set_option linter.unusedSimpArgs false

section
variable {n : Nat} [NeZero n]
/-- The sum, the product, of the first m values. -/
def Sm : Nat → (Nat → Fin n) → Fin n
  | 0, _ => 0
  | m + 1, f => Sm m f + f m
def Pm : Nat → (Nat → Fin n) → Fin n
  | 0, _ => 1
  | m + 1, f => Pm m f * f m
theorem Sm_zero (f : Nat → Fin n) : Sm 0 f = 0 := rfl
theorem Sm_succ (m : Nat) (f : Nat → Fin n) : Sm (m + 1) f = Sm m f + f m := rfl
theorem Pm_zero (f : Nat → Fin n) : Pm 0 f = 1 := rfl
theorem Pm_succ (m : Nat) (f : Nat → Fin n) : Pm (m + 1) f = Pm m f * f m := rfl
theorem Sm_congr {m : Nat} {f g : Nat → Fin n} (h : ∀ i, i < m → f i = g i) : Sm m f = Sm m g := by
  induction m with
  | zero => rfl
  | succ m ih => rw [Sm_succ, Sm_succ, ih (fun i hi => h i (by omega)), h m (by omega)]
theorem Pm_congr {m : Nat} {f g : Nat → Fin n} (h : ∀ i, i < m → f i = g i) : Pm m f = Pm m g := by
  induction m with
  | zero => rfl
  | succ m ih => rw [Pm_succ, Pm_succ, ih (fun i hi => h i (by omega)), h m (by omega)]
theorem Sm_zeros {m : Nat} {f : Nat → Fin n} (h : ∀ i, i < m → f i = 0) : Sm m f = 0 := by
  induction m with
  | zero => rfl
  | succ m ih => rw [Sm_succ, ih (fun i hi => h i (by omega)), h m (by omega)]; grind
theorem Sm_add (m : Nat) (f g : Nat → Fin n) : Sm m (fun i => f i + g i) = Sm m f + Sm m g := by
  induction m with
  | zero => simp only [Sm_zero]; grind
  | succ m ih => simp only [Sm_succ, ih]; grind
theorem Sm_sub (m : Nat) (f g : Nat → Fin n) : Sm m (fun i => f i - g i) = Sm m f - Sm m g := by
  induction m with
  | zero => simp only [Sm_zero]; grind
  | succ m ih => simp only [Sm_succ, ih]; grind
theorem Sm_mul (m : Nat) (c : Fin n) (f : Nat → Fin n) : Sm m (fun i => c * f i) = c * Sm m f := by
  induction m with
  | zero => simp only [Sm_zero]; grind
  | succ m ih => simp only [Sm_succ, ih]; grind
theorem Sm_mul_right (m : Nat) (c : Fin n) (f : Nat → Fin n) : Sm m (fun i => f i * c) = Sm m f * c := by
  induction m with
  | zero => simp only [Sm_zero]; grind
  | succ m ih => simp only [Sm_succ, ih]; grind
theorem Sm_split (a b : Nat) (f : Nat → Fin n) : Sm (a + b) f = Sm a f + Sm b (fun i => f (a + i)) := by
  induction b with
  | zero => simp only [Nat.add_zero, Sm_zero]; grind
  | succ b ih => rw [← Nat.add_assoc, Sm_succ, ih, Sm_succ]; grind
theorem Sm_first (m : Nat) (f : Nat → Fin n) : Sm (m + 1) f = f 0 + Sm m (fun i => f (i + 1)) := by
  rw [Nat.add_comm m 1, Sm_split]
  simp only [Sm_succ, Sm_zero, Nat.add_comm 1]; grind
theorem Sm_swap (a b : Nat) (f : Nat → Nat → Fin n) : Sm a (fun i => Sm b (fun j => f i j)) = Sm b (fun j => Sm a (fun i => f i j)) := by
  induction a with
  | zero => simp only [Sm_zero]; exact (Sm_zeros (fun _ _ => rfl)).symm
  | succ a ih => simp only [Sm_succ, ih, Sm_add]
theorem Sm_rev (m : Nat) (f : Nat → Fin n) : Sm m f = Sm m (fun i => f (m - 1 - i)) := by
  induction m generalizing f with
  | zero => rfl
  | succ m ih =>
    rw [Sm_first, Sm_succ, ih]
    have e : Sm m (fun i => f (m - 1 - i + 1)) = Sm m (fun i => f (m + 1 - 1 - i)) := Sm_congr (fun i hi => by congr 1; omega)
    rw [e, show m + 1 - 1 - m = 0 by omega]; grind
/-- All values but one are 0. -/
theorem Sm_one {m j : Nat} {f : Nat → Fin n} (hj : j < m) (h : ∀ i, i < m → i ≠ j → f i = 0) : Sm m f = f j := by
  induction m with
  | zero => omega
  | succ m ih =>
    rw [Sm_succ]
    by_cases hm : j = m
    · rw [Sm_zeros (fun i hi => h i (by omega) (by omega)), hm]; grind
    · rw [ih (by omega) (fun i hi hn => h i (by omega) hn), h m (by omega) (by omega)]; grind
theorem Sm_ext {a b : Nat} {f : Nat → Fin n} (hab : a ≤ b) (h : ∀ i, a ≤ i → i < b → f i = 0) : Sm b f = Sm a f := by
  rw [show b = a + (b - a) by omega, Sm_split, Sm_zeros (m := b - a) (fun i hi => h (a + i) (by omega) (by omega))]; grind
theorem Pm_mul (m : Nat) (f g : Nat → Fin n) : Pm m (fun i => f i * g i) = Pm m f * Pm m g := by
  induction m with
  | zero => simp only [Pm_zero]; grind
  | succ m ih => simp only [Pm_succ, ih]; grind
end

/-! Rows: a function's first values; a row's coefficients. -/
def tab (m : Nat) (f : Nat → F) : List Int := (List.range m).map (fun j => un (f j))
theorem tab_length (m : Nat) (f : Nat → F) : (tab m f).length = m := by simp [tab]
theorem tab_get? (m : Nat) (f : Nat → F) (i : Nat) : (tab m f)[i]? = if i < m then some (un (f i)) else none := by
  unfold tab
  by_cases h : i < m
  · rw [if_pos h]; simp [h]
  · rw [if_neg h]; simp [h]
theorem tab_getD (m : Nat) (f : Nat → F) (i : Nat) (h : i < m) : (tab m f).getD i 0 = un (f i) := by
  rw [List.getD_eq_getElem?_getD, tab_get?, if_pos h]; rfl
theorem tab_ext {l : List Int} {m : Nat} {f : Nat → F} (hl : l.length = m) (h : ∀ i, i < m → l.getD i 0 = un (f i)) : l = tab m f := by
  apply List.ext_getElem?
  intro i
  rw [tab_get?]
  by_cases hi : i < m
  · rw [if_pos hi]
    have := h i hi
    rw [List.getD_eq_getElem?_getD, List.getElem?_eq_getElem (by omega)] at this
    rw [List.getElem?_eq_getElem (by omega)]
    simpa using this
  · rw [if_neg hi]; exact List.getElem?_eq_none (by omega)
theorem tab_congr {m : Nat} {f g : Nat → F} (h : ∀ i, i < m → f i = g i) : tab m f = tab m g :=
  tab_ext (tab_length m f) (fun i hi => by rw [tab_getD m f i hi, h i hi])
theorem tab_nil (f : Nat → F) : tab 0 f = [] := rfl
theorem tab_succ (m : Nat) (f : Nat → F) : tab (m + 1) f = tab m f ++ [un (f m)] := by
  unfold tab; rw [List.range_succ, List.map_append]; rfl
theorem tab_cons (m : Nat) (f : Nat → F) : tab (m + 1) f = un (f 0) :: tab m (fun i => f (i + 1)) := by
  unfold tab; rw [List.range_succ_eq_map]; simp
theorem tab_append (a b : Nat) (f g : Nat → F) : tab a f ++ tab b g = tab (a + b) (fun i => if i < a then f i else g (i - a)) := by
  apply tab_ext
  · rw [List.length_append, tab_length, tab_length]
  · intro i hi
    rw [List.getD_eq_getElem?_getD]
    by_cases h : i < a
    · rw [List.getElem?_append_left (by rw [tab_length]; exact h), tab_get?, if_pos h, if_pos h]; rfl
    · rw [List.getElem?_append_right (by rw [tab_length]; omega), tab_length, tab_get?, if_pos (by omega), if_neg h]; rfl
theorem tab_inj {a b : Nat} {f g : Nat → F} (h : tab a f = tab b g) : a = b ∧ ∀ i, i < a → f i = g i := by
  have hl := congrArg List.length h
  rw [tab_length, tab_length] at hl
  refine ⟨hl, fun i hi => ?_⟩
  have := tab_getD a f i hi
  rw [h, tab_getD b g i (by omega)] at this
  exact (un_inj this).symm
theorem tab_set (m : Nat) (f : Nat → F) (i : Nat) (v : F) : (tab m f).set i (un v) = tab m (fun j => if j = i then v else f j) := by
  apply tab_ext
  · rw [List.length_set, tab_length]
  · intro j hj
    rw [List.getD_eq_getElem?_getD, List.getElem?_set]
    by_cases e : i = j
    · subst e
      rw [if_pos rfl, if_pos (by rw [tab_length]; exact hj), if_pos rfl]; rfl
    · rw [if_neg e, tab_get?, if_pos hj, if_neg (Ne.symm e)]; rfl
theorem replicate_tab (m : Nat) : List.replicate m (0 : Int) = tab m (fun _ => 0) := by
  apply tab_ext (List.length_replicate)
  intro i hi
  rw [List.getD_eq_getElem?_getD, List.getElem?_replicate, if_pos hi]; rfl
theorem tab_take (m k : Nat) (f : Nat → F) : (tab m f).take k = tab (min k m) f := by
  apply tab_ext
  · rw [List.length_take, tab_length]
  · intro i hi
    rw [List.getD_eq_getElem?_getD, List.getElem?_take, if_pos (by omega), tab_get?, if_pos (by omega)]; rfl
theorem tab_drop (m k : Nat) (f : Nat → F) : (tab m f).drop k = tab (m - k) (fun i => f (k + i)) := by
  apply tab_ext
  · rw [List.length_drop, tab_length]
  · intro i hi
    rw [List.getD_eq_getElem?_getD, List.getElem?_drop, tab_get?, if_pos (by omega)]; rfl
/-- A row's word at a place, in the field (behind the row: 0). -/
def co (l : List Int) (i : Nat) : F := cv (l.getD i 0)
theorem co_tab (m : Nat) (f : Nat → F) (i : Nat) : co (tab m f) i = if i < m then f i else 0 := by
  unfold co
  rw [List.getD_eq_getElem?_getD, tab_get?]
  by_cases h : i < m
  · rw [if_pos h, if_pos h]; exact cv_un _
  · rw [if_neg h, if_neg h]; rfl
theorem co_tab_lt {m : Nat} {f : Nat → F} {i : Nat} (h : i < m) : co (tab m f) i = f i := by rw [co_tab, if_pos h]
theorem co_out {l : List Int} {i : Nat} (h : l.length ≤ i) : co l i = 0 := by
  unfold co; rw [List.getD_eq_getElem?_getD, List.getElem?_eq_none h]; rfl
/-- The first place of a 0, if there is one. -/
theorem first_zero (f : Nat → F) (n : Nat) : (∀ i, i < n → f i ≠ 0) ∨ ∃ m, m < n ∧ (∀ i, i < m → f i ≠ 0) ∧ f m = 0 := by
  induction n with
  | zero => exact .inl (fun i hi => by omega)
  | succ n ih =>
    rcases ih with h | ⟨m, hm, h1, h2⟩
    · by_cases c : f n = 0
      · exact .inr ⟨n, by omega, h, c⟩
      · refine .inl (fun i hi => ?_)
        by_cases e : i = n
        · rw [e]; exact c
        · exact h i (by omega)
    · exact .inr ⟨m, by omega, h1, h2⟩
theorem inv_zero : inv 0 = 0 := by
  unfold inv
  have : ∀ k : Nat, (0 : F) ^ (k + 1) = 0 := fun k => by grind
  exact this 18446744069414584318
end Go.Proofs.YtnmjomcpkckihaaDoor.M
