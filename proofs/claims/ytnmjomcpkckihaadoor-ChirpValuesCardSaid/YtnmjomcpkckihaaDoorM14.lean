/- Rows as polynomials: products of rows, powers. -/
import Derived.Test.YtnmjomcpkckihaaDoorM13
namespace Go.Proofs.YtnmjomcpkckihaaDoor.M
set_option autoImplicit false
set_option linter.unusedVariables false
set_option linter.unusedSimpArgs false
/-- A row is the trimmed row of a polynomial. -/
def IsRow (x : List Int) (f : Nat → F) : Prop := ∃ n, (∀ i, n ≤ i → f i = 0) ∧ x = tr n f
theorem IsRow.uniq {x y : List Int} {f : Nat → F} (hx : IsRow x f) (hy : IsRow y f) : x = y := by
  obtain ⟨n, hn, rfl⟩ := hx
  obtain ⟨m, hm, rfl⟩ := hy
  exact tr_eq (fun _ => rfl) hn hm
theorem IsRow.co {x : List Int} {f : Nat → F} (hx : IsRow x f) : co x = f := by
  obtain ⟨n, hn, rfl⟩ := hx
  exact co_trF hn
theorem IsRow.out {x : List Int} {f : Nat → F} (hx : IsRow x f) : ∀ i, x.length ≤ i → f i = 0 := fun i hi => by
  rw [← hx.co]; exact co_out hi
theorem IsRow.of {n : Nat} {f : Nat → F} (h : ∀ i, n ≤ i → f i = 0) : IsRow (tr n f) f := ⟨n, h, rfl⟩
theorem IsRow.congr {x : List Int} {f g : Nat → F} (hx : IsRow x f) (h : ∀ i, f i = g i) : IsRow x g := by
  have e : f = g := funext h
  rw [← e]; exact hx
/-- One, as a polynomial. -/
def pone : Nat → F := fun i => if i = 0 then 1 else 0
theorem pone_row : IsRow [1] pone := by
  refine ⟨1, fun i hi => if_neg (by omega), ?_⟩
  have h : tr 1 pone = tab 1 pone := by
    unfold tr
    rw [dg_unique (n := 1) (m := 1) (Nat.le_refl _) (fun i h1 h2 => by omega) (fun _ => by
      have e : pone (1 - 1) = 1 := if_pos rfl
      rw [e]; exact one_ne_zero)]
  rw [h, tab_succ, tab_nil]
  have e : pone 0 = 1 := if_pos rfl
  rw [e, un_one]; rfl
/-- What a product makes of two rows. -/
def pmul (a b : List Int) : List Int := tr (a.length + b.length) (cvl (co a) (co b))
theorem pmul_row {a b : List Int} {f g : Nat → F} (ha : IsRow a f) (hb : IsRow b g) : IsRow (pmul a b) (cvl f g) := by
  unfold pmul
  rw [ha.co, hb.co]
  exact IsRow.of (fun i hi => cvl_out ha.out hb.out (by omega))
theorem pmul_any (a b : List Int) : IsRow (pmul a b) (cvl (co a) (co b)) := IsRow.of (fun i hi => cvl_out (row_out a) (row_out b) (by omega))
theorem pmul_length (a b : List Int) : (pmul a b).length ≤ a.length + b.length := tr_len_le _ _
theorem cvl_pone (f : Nat → F) (k : Nat) : cvl f pone k = f k := by
  unfold cvl
  rw [Sm_one (j := k) (by omega)]
  · have e : pone (k - k) = 1 := if_pos (by omega)
    rw [e]; exact k1 _
  · intro i hi hne
    have e : pone (k - i) = 0 := if_neg (by omega)
    rw [e]; exact k2 _
where
  k1 {R : Nat} [NeZero R] (x : Fin R) : x * 1 = x := by grind
  k2 {R : Nat} [NeZero R] (x : Fin R) : x * 0 = 0 := by grind
theorem pone_cvl (f : Nat → F) (k : Nat) : cvl pone f k = f k := by rw [cvl_comm]; exact cvl_pone f k
/-- A power of a polynomial. -/
def ppow (f : Nat → F) : Nat → Nat → F
  | 0 => pone
  | n + 1 => cvl (ppow f n) f
theorem cvl_fun {f f' g g' : Nat → F} (h : ∀ i, f i = f' i) (h2 : ∀ i, g i = g' i) (k : Nat) : cvl f g k = cvl f' g' k := cvl_congr (fun i _ => h i) (fun i _ => h2 i)
theorem ppow_add (f : Nat → F) (a : Nat) : ∀ b k, ppow f (a + b) k = cvl (ppow f a) (ppow f b) k
  | 0, k => (cvl_pone _ k).symm
  | b + 1, k => by
    show cvl (ppow f (a + b)) f k = cvl (ppow f a) (cvl (ppow f b) f) k
    rw [← cvl_assoc]
    exact cvl_fun (ppow_add f a b) (fun _ => rfl) k
theorem ppow_sq (f : Nat → F) : ∀ n k, ppow (cvl f f) n k = ppow f (2 * n) k
  | 0, k => rfl
  | n + 1, k => by
    show cvl (ppow (cvl f f) n) (cvl f f) k = ppow f (2 * n + 1 + 1) k
    have e : ∀ j, ppow f (2 * n + 1 + 1) j = cvl (cvl (ppow f (2 * n)) f) f j := fun j => rfl
    rw [e, cvl_assoc]
    exact cvl_fun (ppow_sq f n) (fun _ => rfl) k
theorem ppow_one (f : Nat → F) (k : Nat) : ppow f 1 k = f k := pone_cvl f k
theorem ppow_succ' (f : Nat → F) (n k : Nat) : ppow f (n + 1) k = cvl f (ppow f n) k := by
  show cvl (ppow f n) f k = _
  exact cvl_comm _ _ k
theorem ppow_zero_of {f : Nat → F} (h : ∀ i, f i = 0) {n : Nat} (hn : 0 < n) (k : Nat) : ppow f n k = 0 := by
  obtain ⟨m, rfl⟩ : ∃ m, n = m + 1 := ⟨n - 1, by omega⟩
  show Sm (k + 1) (fun i => ppow f m i * f (k - i)) = 0
  refine Sm_zeros (fun i _ => ?_)
  rw [h]; exact k2 _
where k2 {R : Nat} [NeZero R] (x : Fin R) : x * 0 = 0 := by grind
end Go.Proofs.YtnmjomcpkckihaaDoor.M
