/- The plain mathematics that the law PolyOps rests on: the field, sums, polynomials, transforms. -/
namespace Go.Proofs.Ytdnmoefdonanbaa.M
set_option autoImplicit false
set_option linter.unusedVariables false
set_option linter.unusedSimpArgs false

def PP : Nat := 18446744069414584321
theorem PP_eq : PP = 18446744069414584321 := rfl
instance instNZ : NeZero PP := ⟨by rw [PP_eq]; omega⟩
abbrev F := Fin PP

/-- A whole number as an element; an element as a number. -/
def cv (a : Int) : F := ⟨(a % 18446744069414584321).toNat, by rw [PP_eq]; omega⟩
def un (x : F) : Int := (x.val : Int)

theorem un_lo (x : F) : 0 ≤ un x := Int.natCast_nonneg _
theorem un_hi (x : F) : un x < 18446744069414584321 := by
  have h := x.isLt
  have e := PP_eq
  unfold un; omega
theorem un_inj {x y : F} (h : un x = un y) : x = y := Fin.ext (by unfold un at h; omega)
theorem un_inj_iff {x y : F} : un x = un y ↔ x = y := ⟨un_inj, fun h => by rw [h]⟩
theorem un_cv (a : Int) : un (cv a) = a % 18446744069414584321 := by
  unfold un cv; simp only; omega
theorem cv_un (x : F) : cv (un x) = x := un_inj (by rw [un_cv]; have := un_lo x; have := un_hi x; omega)
theorem un_add (x y : F) : un (x + y) = (un x + un y) % 18446744069414584321 := by
  have h : (x + y).val = (x.val + y.val) % 18446744069414584321 := Fin.val_add x y
  unfold un; omega
theorem un_mul (x y : F) : un (x * y) = (un x * un y) % 18446744069414584321 := by
  have h : (x * y).val = (x.val * y.val) % 18446744069414584321 := Fin.val_mul x y
  unfold un; rw [h, Int.natCast_emod, Int.natCast_mul]; rfl
theorem un_zero : un 0 = 0 := rfl
theorem val_one : (1 : F).val = 1 := rfl
theorem un_one : un 1 = 1 := by unfold un; rw [val_one]; rfl
theorem cv_add (a b : Int) : cv (a + b) = cv a + cv b := un_inj (by rw [un_add, un_cv, un_cv, un_cv]; omega)
theorem cv_mul (a b : Int) : cv (a * b) = cv a * cv b := un_inj (by rw [un_mul, un_cv, un_cv, un_cv, Int.mul_emod])
theorem cv_zero : cv 0 = 0 := rfl
theorem cv_one : cv 1 = 1 := un_inj (by rw [un_cv, un_one]; rfl)
theorem cv_congr {a b : Int} (h : a % 18446744069414584321 = b % 18446744069414584321) : cv a = cv b := un_inj (by rw [un_cv, un_cv, h])
theorem cv_of_eq {a b : Int} (c : Int) (h : a = b + 18446744069414584321 * c) : cv a = cv b := cv_congr (by omega)
theorem cv_neg (a : Int) : cv (-a) = - cv a := by
  have h : cv (-a) + cv a = 0 := by rw [← cv_add, Int.add_left_neg]; rfl
  grind
theorem cv_sub (a b : Int) : cv (a - b) = cv a - cv b := by rw [Int.sub_eq_add_neg, cv_add, cv_neg]; grind
theorem cv_P : cv 18446744069414584321 = 0 := rfl
theorem un_eq_zero {x : F} : un x = 0 ↔ x = 0 := by rw [← un_zero, un_inj_iff]
theorem un_neg (x : F) : un (-x) = (-un x) % 18446744069414584321 := by
  rw [← un_cv, cv_neg, cv_un]
theorem one_ne_zero : (1 : F) ≠ 0 := fun h => by have h2 := congrArg un h; rw [un_one, un_zero] at h2; omega

/-! Powers, fast. -/

section
variable {n : Nat} [NeZero n]
/-- The sum, the product, of the first m values. -/
def Sm : Nat → (Nat → Fin n) → Fin n
  | 0, _ => 0
  | m + 1, f => Sm m f + f m
theorem Sm_zero (f : Nat → Fin n) : Sm 0 f = 0 := rfl
theorem Sm_succ (m : Nat) (f : Nat → Fin n) : Sm (m + 1) f = Sm m f + f m := rfl
theorem Sm_congr {m : Nat} {f g : Nat → Fin n} (h : ∀ i, i < m → f i = g i) : Sm m f = Sm m g := by
  induction m with
  | zero => rfl
  | succ m ih => rw [Sm_succ, Sm_succ, ih (fun i hi => h i (by omega)), h m (by omega)]
theorem Sm_zeros {m : Nat} {f : Nat → Fin n} (h : ∀ i, i < m → f i = 0) : Sm m f = 0 := by
  induction m with
  | zero => rfl
  | succ m ih => rw [Sm_succ, ih (fun i hi => h i (by omega)), h m (by omega)]; grind
theorem Sm_mul_right (m : Nat) (c : Fin n) (f : Nat → Fin n) : Sm m (fun i => f i * c) = Sm m f * c := by
  induction m with
  | zero => simp only [Sm_zero]; grind
  | succ m ih => simp only [Sm_succ, ih]; grind
theorem Sm_split (a b : Nat) (f : Nat → Fin n) : Sm (a + b) f = Sm a f + Sm b (fun i => f (a + i)) := by
  induction b with
  | zero => simp only [Nat.add_zero, Sm_zero]; grind
  | succ b ih => rw [← Nat.add_assoc, Sm_succ, ih, Sm_succ]; grind
theorem Sm_first (m : Nat) (f : Nat → Fin n) : Sm (m + 1) f = f 0 + Sm m (fun i => f (i + 1)) := by
  rw [Nat.add_comm m 1, Sm_split]
  simp only [Sm_succ, Sm_zero, Nat.add_comm 1]; grind
/-- All values but one are 0. -/
theorem Sm_one {m j : Nat} {f : Nat → Fin n} (hj : j < m) (h : ∀ i, i < m → i ≠ j → f i = 0) : Sm m f = f j := by
  induction m with
  | zero => omega
  | succ m ih =>
    rw [Sm_succ]
    by_cases hm : j = m
    · rw [Sm_zeros (fun i hi => h i (by omega) (by omega)), hm]; grind
    · rw [ih (by omega) (fun i hi hn => h i (by omega) hn), h m (by omega) (by omega)]; grind
theorem Sm_ext {a b : Nat} {f : Nat → Fin n} (hab : a ≤ b) (h : ∀ i, a ≤ i → i < b → f i = 0) : Sm b f = Sm a f := by
  rw [show b = a + (b - a) by omega, Sm_split, Sm_zeros (m := b - a) (fun i hi => h (a + i) (by omega) (by omega))]; grind
end

/-! Rows: a function's first values; a row's coefficients. -/
def tab (m : Nat) (f : Nat → F) : List Int := (List.range m).map (fun j => un (f j))
theorem tab_length (m : Nat) (f : Nat → F) : (tab m f).length = m := by simp [tab]
theorem tab_get? (m : Nat) (f : Nat → F) (i : Nat) : (tab m f)[i]? = if i < m then some (un (f i)) else none := by
  unfold tab
  by_cases h : i < m
  · rw [if_pos h]; simp [h]
  · rw [if_neg h]; simp [h]
theorem tab_getD (m : Nat) (f : Nat → F) (i : Nat) (h : i < m) : (tab m f).getD i 0 = un (f i) := by
  rw [List.getD_eq_getElem?_getD, tab_get?, if_pos h]; rfl
theorem tab_ext {l : List Int} {m : Nat} {f : Nat → F} (hl : l.length = m) (h : ∀ i, i < m → l.getD i 0 = un (f i)) : l = tab m f := by
  apply List.ext_getElem?
  intro i
  rw [tab_get?]
  by_cases hi : i < m
  · rw [if_pos hi]
    have := h i hi
    rw [List.getD_eq_getElem?_getD, List.getElem?_eq_getElem (by omega)] at this
    rw [List.getElem?_eq_getElem (by omega)]
    simpa using this
  · rw [if_neg hi]; exact List.getElem?_eq_none (by omega)
theorem tab_congr {m : Nat} {f g : Nat → F} (h : ∀ i, i < m → f i = g i) : tab m f = tab m g :=
  tab_ext (tab_length m f) (fun i hi => by rw [tab_getD m f i hi, h i hi])
theorem tab_succ (m : Nat) (f : Nat → F) : tab (m + 1) f = tab m f ++ [un (f m)] := by
  unfold tab; rw [List.range_succ, List.map_append]; rfl
theorem tab_set (m : Nat) (f : Nat → F) (i : Nat) (v : F) : (tab m f).set i (un v) = tab m (fun j => if j = i then v else f j) := by
  apply tab_ext
  · rw [List.length_set, tab_length]
  · intro j hj
    rw [List.getD_eq_getElem?_getD, List.getElem?_set]
    by_cases e : i = j
    · subst e
      rw [if_pos rfl, if_pos (by rw [tab_length]; exact hj), if_pos rfl]; rfl
    · rw [if_neg e, tab_get?, if_pos hj, if_neg (Ne.symm e)]; rfl
theorem replicate_tab (m : Nat) : List.replicate m (0 : Int) = tab m (fun _ => 0) := by
  apply tab_ext (List.length_replicate)
  intro i hi
  rw [List.getD_eq_getElem?_getD, List.getElem?_replicate, if_pos hi]; rfl
/-- A row's word at a place, in the field (behind the row: 0). -/
def co (l : List Int) (i : Nat) : F := cv (l.getD i 0)
theorem co_tab (m : Nat) (f : Nat → F) (i : Nat) : co (tab m f) i = if i < m then f i else 0 := by
  unfold co
  rw [List.getD_eq_getElem?_getD, tab_get?]
  by_cases h : i < m
  · rw [if_pos h, if_pos h]; exact cv_un _
  · rw [if_neg h, if_neg h]; rfl
theorem co_tab_lt {m : Nat} {f : Nat → F} {i : Nat} (h : i < m) : co (tab m f) i = f i := by rw [co_tab, if_pos h]
theorem co_out {l : List Int} {i : Nat} (h : l.length ≤ i) : co l i = 0 := by
  unfold co; rw [List.getD_eq_getElem?_getD, List.getElem?_eq_none h]; rfl

theorem sub_self' {n : Nat} [NeZero n] (x : Fin n) : x - x = 0 := by grind

/-- How many coefficients a polynomial of at most n has, without noughts at its end; the trimmed row. -/
def dg : Nat → (Nat → F) → Nat
  | 0, _ => 0
  | n + 1, f => if f n = 0 then dg n f else n + 1
def tr (n : Nat) (f : Nat → F) : List Int := tab (dg n f) f
theorem dg_le (n : Nat) (f : Nat → F) : dg n f ≤ n := by
  induction n with
  | zero => exact Nat.le_refl _
  | succ n ih => unfold dg; split <;> omega
theorem dg_out {n : Nat} {f : Nat → F} {i : Nat} (h : dg n f ≤ i) (hi : i < n) : f i = 0 := by
  induction n with
  | zero => omega
  | succ n ih =>
    unfold dg at h
    split at h
    · rename_i h0
      by_cases e : i = n
      · rw [e]; exact h0
      · exact ih h (by omega)
    · omega
theorem dg_congr {n : Nat} {f g : Nat → F} (h : ∀ i, i < n → f i = g i) : dg n f = dg n g := by
  induction n with
  | zero => rfl
  | succ n ih => unfold dg; rw [h n (by omega), ih (fun i hi => h i (by omega))]
theorem dg_ext {n m : Nat} {f : Nat → F} (hnm : n ≤ m) (h : ∀ i, n ≤ i → i < m → f i = 0) : dg m f = dg n f := by
  induction m with
  | zero => obtain rfl : n = 0 := by omega
            rfl
  | succ m ih =>
    by_cases e : n = m + 1
    · rw [e]
    · rw [show dg (m + 1) f = if f m = 0 then dg m f else m + 1 from rfl, if_pos (h m (by omega) (by omega))]
      exact ih (by omega) (fun i h1 h2 => h i h1 (by omega))
theorem dg_unique {n m : Nat} {f : Nat → F} (hm : m ≤ n) (h1 : ∀ i, m ≤ i → i < n → f i = 0) (h2 : 0 < m → f (m - 1) ≠ 0) : dg n f = m := by
  rw [dg_ext hm h1]
  cases m with
  | zero => rfl
  | succ m => have h := h2 (by omega)
              rw [Nat.add_sub_cancel] at h
              unfold dg; rw [if_neg h]
theorem tr_length (n : Nat) (f : Nat → F) : (tr n f).length = dg n f := tab_length _ _
theorem tr_congr {n : Nat} {f g : Nat → F} (h : ∀ i, i < n → f i = g i) : tr n f = tr n g := by
  unfold tr; rw [dg_congr h]
  exact tab_congr (fun i hi => h i (by have := dg_le n g; omega))
theorem tr_ext {n m : Nat} {f : Nat → F} (hnm : n ≤ m) (h : ∀ i, n ≤ i → i < m → f i = 0) : tr m f = tr n f := by
  unfold tr; rw [dg_ext hnm h]
/-- Trimmed rows of the same polynomial are the same. -/
theorem tr_same {n m : Nat} {f g : Nat → F} (h : ∀ i, (if i < n then f i else 0) = (if i < m then g i else 0)) : tr n f = tr m g := by
  have hf : tr n f = tr (max n m) (fun i => if i < n then f i else 0) := by
    rw [tr_ext (f := fun i => if i < n then f i else 0) (Nat.le_max_left n m) (fun i h1 _ => if_neg (by omega))]
    exact tr_congr (fun i hi => (if_pos hi).symm)
  have hg : tr m g = tr (max n m) (fun i => if i < m then g i else 0) := by
    rw [tr_ext (f := fun i => if i < m then g i else 0) (Nat.le_max_right n m) (fun i h1 _ => if_neg (by omega))]
    exact tr_congr (fun i hi => (if_pos hi).symm)
  rw [hf, hg]
  exact tr_congr (fun i _ => h i)
theorem tr_eq {n m : Nat} {f g : Nat → F} (h : ∀ i, f i = g i) (hf : ∀ i, n ≤ i → f i = 0) (hg : ∀ i, m ≤ i → g i = 0) : tr n f = tr m g := by
  apply tr_same
  intro i
  by_cases h1 : i < n <;> by_cases h2 : i < m
  · rw [if_pos h1, if_pos h2, h i]
  · rw [if_pos h1, if_neg h2, h i, hg i (by omega)]
  · rw [if_neg h1, if_pos h2, ← h i, hf i (by omega)]
  · rw [if_neg h1, if_neg h2]
theorem co_tr {n : Nat} {f : Nat → F} (hf : ∀ i, n ≤ i → f i = 0) (i : Nat) : co (tr n f) i = f i := by
  unfold tr; rw [co_tab]
  by_cases h : i < dg n f
  · rw [if_pos h]
  · rw [if_neg h]
    by_cases h2 : i < n
    · exact (dg_out (by omega) h2).symm
    · exact (hf i (by omega)).symm
theorem tr_zero {n : Nat} {f : Nat → F} (h : ∀ i, i < n → f i = 0) : tr n f = [] := by
  rw [tr_ext (n := 0) (Nat.zero_le n) (fun i _ hi => h i hi)]; rfl

section
variable {R : Nat} [NeZero R]
/-- A polynomial's value; a product's coefficients; a derivative's. -/
def ev (n : Nat) (f : Nat → Fin R) (x : Fin R) : Fin R := Sm n (fun i => f i * x ^ i)
def cvl (f g : Nat → Fin R) (k : Nat) : Fin R := Sm (k + 1) (fun i => f i * g (k - i))
/-- What a product is behind both lengths. -/
theorem cvl_out {n m : Nat} {f g : Nat → Fin R} (hf : ∀ i, n ≤ i → f i = 0) (hg : ∀ i, m ≤ i → g i = 0) {k : Nat} (hk : n + m ≤ k + 1) : cvl f g k = 0 := by
  refine Sm_zeros (fun i hi => ?_)
  by_cases h : n ≤ i
  · rw [hf i h]; exact zero_mul' _
  · rw [hg (k - i) (by omega)]; exact mul_zero' _
where
  zero_mul' (a : Fin R) : 0 * a = 0 := by grind
  mul_zero' (a : Fin R) : a * 0 = 0 := by grind
/-- Horner's rule: what is told from a place on. -/
def hn (n : Nat) (f : Nat → Fin R) (x : Fin R) (i : Nat) : Fin R := Sm (n - i) (fun j => f (i + j) * x ^ j)
theorem hn_top (n : Nat) (f : Nat → Fin R) (x : Fin R) : hn n f x n = 0 := by unfold hn; rw [Nat.sub_self]; rfl
theorem hn_zero (n : Nat) (f : Nat → Fin R) (x : Fin R) : hn n f x 0 = ev n f x := by
  unfold hn ev; rw [Nat.sub_zero]; exact Sm_congr (fun i _ => by rw [Nat.zero_add])
theorem hn_step {n : Nat} (f : Nat → Fin R) (x : Fin R) {i : Nat} (h : i < n) : hn n f x i = hn n f x (i + 1) * x + f i := by
  unfold hn
  rw [show n - i = (n - (i + 1)) + 1 by omega, Sm_first, Nat.add_zero, ← Sm_mul_right]
  have e : Sm (n - (i + 1)) (fun j => f (i + (j + 1)) * x ^ (j + 1)) = Sm (n - (i + 1)) (fun j => f (i + 1 + j) * x ^ j * x) :=
    Sm_congr (fun j _ => by rw [show i + (j + 1) = i + 1 + j by omega]; exact pw _ _ _)
  rw [e]; exact fin _ _ _
where
  pw (a x : Fin R) (j : Nat) : a * x ^ (j + 1) = a * x ^ j * x := by grind
  fin (a s x : Fin R) : a * x ^ 0 + s = s + a := by grind
end

theorem co_trF {n : Nat} {f : Nat → F} (hf : ∀ i, n ≤ i → f i = 0) : co (tr n f) = f := funext (co_tr hf)
theorem tr_len_le (n : Nat) (f : Nat → F) : (tr n f).length ≤ n := by rw [tr_length]; exact dg_le n f

def one (i : Nat) : F := if i = 0 then 1 else 0
def lin (a : F) (i : Nat) : F := if i = 0 then -a else if i = 1 then 1 else 0
def frp : Nat → (Nat → F) → (Nat → F)
  | 0, _ => one
  | n + 1, z => cvl (frp n z) (lin (z n))
theorem one_out {i : Nat} (h : 1 ≤ i) : one i = 0 := if_neg (by omega)
theorem lin_out (a : F) {i : Nat} (h : 2 ≤ i) : lin a i = 0 := by unfold lin; rw [if_neg (by omega), if_neg (by omega)]
theorem frp_out (n : Nat) (z : Nat → F) : ∀ i, n + 1 ≤ i → frp n z i = 0 := by
  induction n with
  | zero => intro i hi; exact one_out (by omega)
  | succ n ih => intro i hi; exact cvl_out (n := n + 1) (m := 2) ih (fun j hj => lin_out _ hj) (by omega)
theorem cvl_lin_succ (f : Nat → F) (a : F) (i : Nat) : cvl f (lin a) (i + 1) = f i - f (i + 1) * a := by
  unfold cvl
  rw [Sm_succ, Sm_succ, Sm_zeros (fun j hj => by rw [lin_out a (show 2 ≤ i + 1 - j by omega)]; exact z1 _)]
  rw [show i + 1 - i = 1 by omega, Nat.sub_self]
  exact z2 _ _ _
where
  z1 (a : F) : a * 0 = 0 := by grind
  z2 (x y a : F) : 0 + x * lin a 1 + y * lin a 0 = x - y * a := by
    rw [show lin a 1 = 1 from rfl, show lin a 0 = -a from rfl]; grind
theorem cvl_lin_zero (f : Nat → F) (a : F) : cvl f (lin a) 0 = - (f 0 * a) := by
  unfold cvl
  rw [Sm_succ, Sm_zero, show lin a (0 - 0) = -a from rfl]; exact z _ _
where z (x a : F) : 0 + x * -a = -(x * a) := by grind
theorem frp_top (n : Nat) (z : Nat → F) : frp n z n = 1 := by
  induction n with
  | zero => rfl
  | succ n ih =>
    rw [show frp (n + 1) z = cvl (frp n z) (lin (z n)) from rfl, cvl_lin_succ, ih, frp_out n z (n + 1) (by omega)]
    exact k _
where k {R : Nat} [NeZero R] (a : Fin R) : 1 - 0 * a = 1 := by grind
theorem dg_frp (n m : Nat) (z : Nat → F) (h : n + 1 ≤ m) : dg m (frp n z) = n + 1 :=
  dg_unique h (fun i h1 _ => frp_out n z i h1) (fun _ => by rw [Nat.add_sub_cancel, frp_top]; exact one_ne_zero)
theorem tr_frp (n m : Nat) (z : Nat → F) (h : n + 1 ≤ m) : tr m (frp n z) = tab (n + 1) (frp n z) := by unfold tr; rw [dg_frp n m z h]
theorem co_pair (a : F) : co [un a, 1] = fun i => if i = 0 then a else if i = 1 then 1 else 0 := by
  funext i
  match i with
  | 0 => exact cv_un a
  | 1 => rw [if_neg (by omega), if_pos rfl]; exact cv_one
  | n + 2 => rw [if_neg (by omega), if_neg (by omega)]; exact co_out (Nat.le_add_left 2 n)
theorem co_lin (a : F) : co [un (-a), 1] = lin a := co_pair (-a)
theorem tab_one : tab 1 one = [1] := by unfold tab one; rw [show List.range 1 = [0] from rfl]; simp [un_one]
theorem co_tab_out {m : Nat} {f : Nat → F} (hf : ∀ i, m ≤ i → f i = 0) : co (tab m f) = f := by
  funext i
  rw [co_tab]
  by_cases h : i < m
  · rw [if_pos h]
  · rw [if_neg h, hf i (by omega)]

def der (f : Nat → F) (i : Nat) : F := f (i + 1) * cv ((i + 1 : Nat) : Int)
/-- A row is the trimmed row of a polynomial. -/
def IsRow (x : List Int) (f : Nat → F) : Prop := ∃ n, (∀ i, n ≤ i → f i = 0) ∧ x = tr n f
theorem IsRow.co {x : List Int} {f : Nat → F} (hx : IsRow x f) : co x = f := by
  obtain ⟨n, hn, rfl⟩ := hx
  exact co_trF hn
theorem IsRow.of {n : Nat} {f : Nat → F} (h : ∀ i, n ≤ i → f i = 0) : IsRow (tr n f) f := ⟨n, h, rfl⟩
theorem IsRow.congr {x : List Int} {f g : Nat → F} (hx : IsRow x f) (h : ∀ i, f i = g i) : IsRow x g := by
  have e : f = g := funext h
  rw [← e]; exact hx
/-- The number that digits are (any words, as digits). -/
def nv : List Int → Nat
  | [] => 0
  | d :: t => d.toNat + 65536 * nv t
def Dg (l : List Int) : Prop := ∀ d ∈ l, 0 ≤ d ∧ d < 65536
/-- A number's digits. -/
def dgs (n : Nat) : List Int := if n = 0 then [] else ((n % 65536 : Nat) : Int) :: dgs (n / 65536)
termination_by n
decreasing_by omega
theorem dgs_zero : dgs 0 = [] := by rw [dgs, if_pos rfl]
theorem dgs_pos {n : Nat} (h : n ≠ 0) : dgs n = ((n % 65536 : Nat) : Int) :: dgs (n / 65536) := by rw [dgs, if_neg h]
theorem nv_cons (d : Int) (t : List Int) : nv (d :: t) = d.toNat + 65536 * nv t := rfl
theorem Dg_nil : Dg [] := fun d h => by cases h
theorem Dg_cons {d : Int} {t : List Int} (h0 : 0 ≤ d) (h1 : d < 65536) (h : Dg t) : Dg (d :: t) := fun x hx => by
  rcases List.mem_cons.1 hx with rfl | hx
  · exact ⟨h0, h1⟩
  · exact h x hx
theorem Dg.head {d : Int} {t : List Int} (h : Dg (d :: t)) : 0 ≤ d ∧ d < 65536 := h d List.mem_cons_self
theorem Dg.tail {d : Int} {t : List Int} (h : Dg (d :: t)) : Dg t := fun x hx => h x (List.mem_cons_of_mem _ hx)
theorem Dg_dgs (n : Nat) : Dg (dgs n) := by
  induction n using Nat.strongRecOn with
  | _ n ih =>
    by_cases h : n = 0
    · rw [h, dgs_zero]; exact Dg_nil
    · rw [dgs_pos h]; exact Dg_cons (by omega) (by omega) (ih _ (by omega))
/-- Without noughts at its end. -/
def trz : List Int → List Int
  | [] => []
  | d :: t => if trz t = [] ∧ d = 0 then [] else d :: trz t
theorem trz_cons (d : Int) (t : List Int) : trz (d :: t) = if trz t = [] ∧ d = 0 then [] else d :: trz t := rfl
theorem nv_trz (l : List Int) : nv (trz l) = nv l := by
  induction l with
  | nil => rfl
  | cons d t ih =>
    rw [trz_cons]
    split
    · rename_i h
      rw [h.1] at ih
      rw [nv_cons, ← ih, h.2]; rfl
    · rw [nv_cons, nv_cons, ih]
theorem trz_nil_nv {l : List Int} (h : trz l = []) : nv l = 0 := by rw [← nv_trz, h]; rfl
theorem trz_dgs {l : List Int} (h : Dg l) : trz l = dgs (nv l) := by
  induction l with
  | nil => exact dgs_zero.symm
  | cons d t ih =>
    have hd := h.head
    have it := ih h.tail
    rw [trz_cons, nv_cons]
    by_cases c : trz t = [] ∧ d = 0
    · rw [if_pos c, trz_nil_nv c.1, c.2]; exact dgs_zero.symm
    · rw [if_neg c]
      have hn : d.toNat + 65536 * nv t ≠ 0 := fun e => by
        refine c ⟨?_, by omega⟩
        rw [it, show nv t = 0 by omega]; exact dgs_zero
      rw [dgs_pos hn, it, show (d.toNat + 65536 * nv t) % 65536 = d.toNat by omega, show (d.toNat + 65536 * nv t) / 65536 = nv t by omega, Int.toNat_of_nonneg hd.1]
theorem trz_last {l : List Int} {i : Nat} (h : (trz l).length = i + 1) : l.getD i 0 ≠ 0 := by
  induction l generalizing i with
  | nil => cases h
  | cons d t ih =>
    rw [trz_cons] at h
    by_cases c : trz t = [] ∧ d = 0
    · rw [if_pos c] at h; cases h
    · rw [if_neg c, List.length_cons] at h
      cases i with
      | zero =>
        intro e
        exact c ⟨List.length_eq_zero_iff.1 (by omega), e⟩
      | succ i => exact ih (by omega)
/-- The row is a number's digits. -/
def Nt (l : List Int) : Prop := l = dgs (nv l)
theorem Nt.Dg {l : List Int} (h : Nt l) : Dg l := by rw [h]; exact Dg_dgs _
theorem Nt.last {l : List Int} (h : Nt l) {i : Nat} (hi : i + 1 = l.length) : l.getD i 0 ≠ 0 := by
  have e : trz l = l := by rw [trz_dgs h.Dg]; exact h.symm
  exact trz_last (by rw [e]; exact hi.symm)
end Go.Proofs.Ytdnmoefdonanbaa.M
