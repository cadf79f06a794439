/- Rows as polynomials: products of rows, powers. -/
import Derived.Test.YtnmjomcpkckihaaM13
namespace Go.Proofs.Ytnmjomcpkckihaa.M
set_option autoImplicit false
set_option linter.unusedVariables false
set_option linter.unusedSimpArgs false
/-- A row is the trimmed row of a polynomial. -/
def IsRow (x : List Int) (f : Nat → F) : Prop := ∃ n, (∀ i, n ≤ i → f i = 0) ∧ x = tr n f
theorem IsRow.co {x : List Int} {f : Nat → F} (hx : IsRow x f) : co x = f := by
  obtain ⟨n, hn, rfl⟩ := hx
  exact co_trF hn
theorem IsRow.of {n : Nat} {f : Nat → F} (h : ∀ i, n ≤ i → f i = 0) : IsRow (tr n f) f := ⟨n, h, rfl⟩
theorem IsRow.congr {x : List Int} {f g : Nat → F} (hx : IsRow x f) (h : ∀ i, f i = g i) : IsRow x g := by
  have e : f = g := funext h
  rw [← e]; exact hx
/-- One, as a polynomial. -/
def pone : Nat → F := fun i => if i = 0 then 1 else 0
theorem pone_row : IsRow [1] pone := by
  refine ⟨1, fun i hi => if_neg (by omega), ?_⟩
  have h : tr 1 pone = tab 1 pone := by
    unfold tr
    rw [dg_unique (n := 1) (m := 1) (Nat.le_refl _) (fun i h1 h2 => by omega) (fun _ => by
      have e : pone (1 - 1) = 1 := if_pos rfl
      rw [e]; exact one_ne_zero)]
  rw [h, tab_succ, tab_nil]
  have e : pone 0 = 1 := if_pos rfl
  rw [e, un_one]; rfl
/-- What a product makes of two rows. -/
def pmul (a b : List Int) : List Int := tr (a.length + b.length) (cvl (co a) (co b))
theorem pmul_any (a b : List Int) : IsRow (pmul a b) (cvl (co a) (co b)) := IsRow.of (fun i hi => cvl_out (row_out a) (row_out b) (by omega))
theorem pmul_length (a b : List Int) : (pmul a b).length ≤ a.length + b.length := tr_len_le _ _
theorem cvl_pone (f : Nat → F) (k : Nat) : cvl f pone k = f k := by
  unfold cvl
  rw [Sm_one (j := k) (by omega)]
  · have e : pone (k - k) = 1 := if_pos (by omega)
    rw [e]; exact k1 _
  · intro i hi hne
    have e : pone (k - i) = 0 := if_neg (by omega)
    rw [e]; exact k2 _
where
  k1 {R : Nat} [NeZero R] (x : Fin R) : x * 1 = x := by grind
  k2 {R : Nat} [NeZero R] (x : Fin R) : x * 0 = 0 := by grind
theorem pone_cvl (f : Nat → F) (k : Nat) : cvl pone f k = f k := by rw [cvl_comm]; exact cvl_pone f k
theorem cvl_fun {f f' g g' : Nat → F} (h : ∀ i, f i = f' i) (h2 : ∀ i, g i = g' i) (k : Nat) : cvl f g k = cvl f' g' k := cvl_congr (fun i _ => h i) (fun i _ => h2 i)
end Go.Proofs.Ytnmjomcpkckihaa.M
