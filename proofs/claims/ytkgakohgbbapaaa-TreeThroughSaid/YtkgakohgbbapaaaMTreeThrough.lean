/- The plain mathematics that the law TreeThrough rests on: the field, sums, polynomials, transforms. -/
namespace Go.Proofs.Ytkgakohgbbapaaa.M
set_option autoImplicit false
set_option linter.unusedVariables false
set_option linter.unusedSimpArgs false

def PP : Nat := 18446744069414584321
theorem PP_eq : PP = 18446744069414584321 := rfl
instance instNZ : NeZero PP := ⟨by rw [PP_eq]; omega⟩
abbrev F := Fin PP

/-- A whole number as an element; an element as a number. -/
def cv (a : Int) : F := ⟨(a % 18446744069414584321).toNat, by rw [PP_eq]; omega⟩
def un (x : F) : Int := (x.val : Int)

theorem un_lo (x : F) : 0 ≤ un x := Int.natCast_nonneg _
theorem un_hi (x : F) : un x < 18446744069414584321 := by
  have h := x.isLt
  have e := PP_eq
  unfold un; omega
theorem un_inj {x y : F} (h : un x = un y) : x = y := Fin.ext (by unfold un at h; omega)
theorem un_inj_iff {x y : F} : un x = un y ↔ x = y := ⟨un_inj, fun h => by rw [h]⟩
theorem un_cv (a : Int) : un (cv a) = a % 18446744069414584321 := by
  unfold un cv; simp only; omega
theorem cv_un (x : F) : cv (un x) = x := un_inj (by rw [un_cv]; have := un_lo x; have := un_hi x; omega)
theorem un_add (x y : F) : un (x + y) = (un x + un y) % 18446744069414584321 := by
  have h : (x + y).val = (x.val + y.val) % 18446744069414584321 := Fin.val_add x y
  unfold un; omega
theorem un_mul (x y : F) : un (x * y) = (un x * un y) % 18446744069414584321 := by
  have h : (x * y).val = (x.val * y.val) % 18446744069414584321 := Fin.val_mul x y
  unfold un; rw [h, Int.natCast_emod, Int.natCast_mul]; rfl
theorem un_zero : un 0 = 0 := rfl
theorem val_one : (1 : F).val = 1 := rfl
theorem un_one : un 1 = 1 := by unfold un; rw [val_one]; rfl
theorem cv_add (a b : Int) : cv (a + b) = cv a + cv b := un_inj (by rw [un_add, un_cv, un_cv, un_cv]; omega)
theorem cv_mul (a b : Int) : cv (a * b) = cv a * cv b := un_inj (by rw [un_mul, un_cv, un_cv, un_cv, Int.mul_emod])
theorem cv_zero : cv 0 = 0 := rfl
theorem cv_one : cv 1 = 1 := un_inj (by rw [un_cv, un_one]; rfl)
theorem cv_congr {a b : Int} (h : a % 18446744069414584321 = b % 18446744069414584321) : cv a = cv b := un_inj (by rw [un_cv, un_cv, h])
theorem cv_eq_iff {a b : Int} : cv a = cv b ↔ a % 18446744069414584321 = b % 18446744069414584321 :=
  ⟨fun h => by rw [← un_cv, ← un_cv, h], cv_congr⟩
theorem cv_of_eq {a b : Int} (c : Int) (h : a = b + 18446744069414584321 * c) : cv a = cv b := cv_congr (by omega)
theorem cv_neg (a : Int) : cv (-a) = - cv a := by
  have h : cv (-a) + cv a = 0 := by rw [← cv_add, Int.add_left_neg]; rfl
  grind
theorem cv_sub (a b : Int) : cv (a - b) = cv a - cv b := by rw [Int.sub_eq_add_neg, cv_add, cv_neg]; grind
theorem cv_P : cv 18446744069414584321 = 0 := rfl
theorem cv_eq_zero {a : Int} : cv a = 0 ↔ a % 18446744069414584321 = 0 := by
  rw [← cv_zero, cv_eq_iff]; omega
theorem un_eq_zero {x : F} : un x = 0 ↔ x = 0 := by rw [← un_zero, un_inj_iff]
theorem un_neg (x : F) : un (-x) = (-un x) % 18446744069414584321 := by
  rw [← un_cv, cv_neg, cv_un]
theorem one_ne_zero : (1 : F) ≠ 0 := fun h => by have h2 := congrArg un h; rw [un_one, un_zero] at h2; omega

/-! Powers, fast. -/
theorem pow_add' {n : Nat} [NeZero n] (x : Fin n) (a b : Nat) : x ^ (a + b) = x ^ a * x ^ b := by
  induction b with
  | zero => grind
  | succ b ih => rw [show a + (b + 1) = (a + b) + 1 by omega]; grind
theorem pow_mul' {n : Nat} [NeZero n] (x : Fin n) (a b : Nat) : x ^ (a * b) = (x ^ a) ^ b := by
  induction b with
  | zero => grind
  | succ b ih => rw [Nat.mul_succ, pow_add', ih]; grind
theorem one_pow' {n : Nat} [NeZero n] (a : Nat) : (1 : Fin n) ^ a = 1 := by
  induction a with
  | zero => grind
  | succ a ih => grind
def fpow : Nat → Nat → Nat → Nat
  | 0, _, _ => 1
  | k + 1, b, n => if n = 0 then 1 else if n % 2 = 1 then fpow k (b * b % 18446744069414584321) (n / 2) * b % 18446744069414584321 else fpow k (b * b % 18446744069414584321) (n / 2)
theorem fpow_eq : ∀ (k b n : Nat), n < 2 ^ k → cv (fpow k b n : Nat) = cv (b : Nat) ^ n
  | 0, b, n, h => by
    obtain rfl : n = 0 := by simpa using h
    show cv 1 = _
    rw [cv_one]; grind
  | k + 1, b, n, h => by
    have hk : n / 2 < 2 ^ k := by rw [Nat.pow_succ] at h; omega
    have ih := fpow_eq k (b * b % 18446744069414584321) (n / 2) hk
    have e : cv ((b * b % 18446744069414584321 : Nat) : Int) = cv b * cv b := by
      rw [← cv_mul]; apply cv_congr; rw [Int.natCast_emod, Int.natCast_mul]; omega
    rw [e] at ih
    have e2 : (cv b * cv b) ^ (n / 2) = cv b ^ (2 * (n / 2)) := by rw [show cv (b : Int) * cv b = cv b ^ 2 by grind, ← pow_mul']
    rw [e2] at ih
    unfold fpow
    by_cases h0 : n = 0
    · rw [if_pos h0, h0]; show cv 1 = _; rw [cv_one]; grind
    · rw [if_neg h0]
      by_cases h1 : n % 2 = 1
      · rw [if_pos h1]
        have e3 : cv ((fpow k (b * b % 18446744069414584321) (n / 2) * b % 18446744069414584321 : Nat) : Int) = cv (fpow k (b * b % 18446744069414584321) (n / 2) : Nat) * cv b := by
          rw [← cv_mul]; apply cv_congr; rw [Int.natCast_emod, Int.natCast_mul]; omega
        rw [e3, ih]
        have : n = 2 * (n / 2) + 1 := by omega
        rw [show cv (b : Int) ^ (2 * (n / 2)) * cv b = cv b ^ (2 * (n / 2) + 1) by grind, ← this]
      · rw [if_neg h1, ih]
        have : n = 2 * (n / 2) := by omega
        rw [← this]
theorem cv_eq_one_nat {n : Nat} (h : n < 18446744069414584321) : cv (n : Int) = 1 ↔ n = 1 := by
  rw [← cv_one, cv_eq_iff]; omega
theorem g_full : cv 7 ^ 18446744069414584320 = 1 := by
  have h := fpow_eq 64 7 18446744069414584320 (by decide)
  rw [show (((7 : Nat) : Int)) = 7 from rfl] at h
  rw [← h, cv_eq_one_nat (by decide +kernel)]
  decide +kernel
theorem g_part (q : Nat) (hq : q ∈ [2, 3, 5, 17, 257, 65537]) : cv 7 ^ (18446744069414584320 / q) ≠ 1 := by
  intro hh
  have hlt : 18446744069414584320 / q < 2 ^ 64 := Nat.lt_of_le_of_lt (Nat.div_le_self _ _) (by decide)
  have h := fpow_eq 64 7 (18446744069414584320 / q) hlt
  rw [show (((7 : Nat) : Int)) = 7 from rfl, hh] at h
  have key : ∀ q ∈ [2, 3, 5, 17, 257, 65537], fpow 64 7 (18446744069414584320 / q) < 18446744069414584321 ∧ fpow 64 7 (18446744069414584320 / q) ≠ 1 := by decide +kernel
  have := key q hq
  exact this.2 ((cv_eq_one_nat this.1).1 h)

/-! The order of 7. -/
theorem pow_mod_one {n : Nat} [NeZero n] (x : Fin n) {a b : Nat} (ha : x ^ a = 1) (hb : x ^ b = 1) : x ^ (a % b) = 1 := by
  have e : a = b * (a / b) + a % b := (Nat.div_add_mod a b).symm
  have h2 : x ^ (b * (a / b) + a % b) = x ^ (b * (a / b)) * x ^ (a % b) := by grind
  rw [pow_mul', hb, one_pow', ← e, ha] at h2
  grind
theorem pow_gcd_one {n : Nat} [NeZero n] (x : Fin n) : ∀ (a b : Nat), x ^ a = 1 → x ^ b = 1 → x ^ (Nat.gcd a b) = 1 := by
  intro a
  induction a using Nat.strongRecOn with
  | _ a ih =>
    intro b ha hb
    by_cases h0 : a = 0
    · rw [h0, Nat.gcd_zero_left]; exact hb
    · rw [Nat.gcd_rec]
      exact ih (b % a) (Nat.mod_lt _ (by omega)) a (pow_mod_one x hb ha) ha
theorem cop_of (q : Nat) (hq : ∀ d, d ∣ q → d = 1 ∨ d = q) (m : Nat) (h : ¬ q ∣ m) : Nat.Coprime m q := by
  rcases hq (Nat.gcd m q) (Nat.gcd_dvd_right _ _) with h1 | h1
  · exact h1
  · exact absurd (h1 ▸ Nat.gcd_dvd_left m q) h
theorem prime_small (q : Nat) (hq : q ∈ [2, 3, 5, 17, 257]) : ∀ d, d ∣ q → d = 1 ∨ d = q := by
  intro d hd
  have hle : d < 258 := by
    have h0 : 0 < q := (by decide : ∀ q ∈ [2, 3, 5, 17, 257], 0 < q) q hq
    have := Nat.le_of_dvd h0 hd
    have h1 : q ≤ 257 := (by decide : ∀ q ∈ [2, 3, 5, 17, 257], q ≤ 257) q hq
    omega
  have key : ∀ d, d < 258 → ∀ q ∈ [2, 3, 5, 17, 257], q % d = 0 → d = 1 ∨ d = q := by decide +kernel
  exact key d hle q hq (Nat.mod_eq_zero_of_dvd hd)
theorem prime_65537 : ∀ d, d ∣ 65537 → d = 1 ∨ d = 65537 := by
  have key : ∀ d, d < 257 → 65537 % d = 0 → d = 1 := by decide +kernel
  intro d hd
  obtain ⟨e, he⟩ := hd
  by_cases h : d < 257
  · exact .inl (key d h (by rw [he]; exact Nat.mul_mod_right _ _))
  · by_cases h2 : e < 257
    · have := key e h2 (by rw [he]; exact Nat.mul_mod_left _ _)
      rw [this] at he; omega
    · have h3 : 257 * 257 ≤ d * e := Nat.mul_le_mul (by omega) (by omega)
      omega
theorem part_of (m : Nat) (hm : m ∣ 18446744069414584320) (h1 : m ≠ 1) : ∃ q ∈ [2, 3, 5, 17, 257, 65537], q ∣ m := by
  apply Classical.byContradiction
  intro hn
  have hno : ∀ q, q ∈ [2, 3, 5, 17, 257, 65537] → ¬ q ∣ m := fun q hq hd => hn ⟨q, hq, hd⟩
  have c2 := (cop_of 2 (prime_small 2 (by decide)) m (hno 2 (by decide))).pow_right 32
  have c3 := cop_of 3 (prime_small 3 (by decide)) m (hno 3 (by decide))
  have c5 := cop_of 5 (prime_small 5 (by decide)) m (hno 5 (by decide))
  have c17 := cop_of 17 (prime_small 17 (by decide)) m (hno 17 (by decide))
  have c257 := cop_of 257 (prime_small 257 (by decide)) m (hno 257 (by decide))
  have c6 := cop_of 65537 prime_65537 m (hno 65537 (by decide))
  have h : m ∣ 2 ^ 32 * (3 * (5 * (17 * (257 * (65537 * 1))))) := by
    rw [show 2 ^ 32 * (3 * (5 * (17 * (257 * (65537 * 1))))) = 18446744069414584320 by decide]; exact hm
  have h := c6.dvd_of_dvd_mul_left (c257.dvd_of_dvd_mul_left (c17.dvd_of_dvd_mul_left (c5.dvd_of_dvd_mul_left (c3.dvd_of_dvd_mul_left (c2.dvd_of_dvd_mul_left h)))))
  exact h1 (Nat.dvd_one.1 h)
theorem g_order (d : Nat) (h0 : 0 < d) (h1 : d < 18446744069414584320) : cv 7 ^ d ≠ 1 := by
  intro hd
  have he := pow_gcd_one (cv 7) d 18446744069414584320 hd g_full
  generalize hg : Nat.gcd d 18446744069414584320 = e at he
  have hed : e ∣ d := hg ▸ Nat.gcd_dvd_left _ _
  have hep : e ∣ 18446744069414584320 := hg ▸ Nat.gcd_dvd_right _ _
  have hle := Nat.le_of_dvd h0 hed
  obtain ⟨m, hm⟩ := hep
  have hm1 : m ≠ 1 := fun h => by rw [h] at hm; omega
  obtain ⟨q, hq, c, hc⟩ := part_of m ⟨e, by rw [hm]; exact Nat.mul_comm _ _⟩ hm1
  have hq0 : 0 < q := (by decide : ∀ q ∈ [2, 3, 5, 17, 257, 65537], 0 < q) q hq
  have hdiv : 18446744069414584320 / q = e * c := by
    rw [hm, hc, show e * (q * c) = q * (e * c) by rw [Nat.mul_left_comm]]
    exact Nat.mul_div_cancel_left _ hq0
  refine g_part q hq ?_
  rw [hdiv, pow_mul', he, one_pow']

/-! Each element but 0 is a power of 7. -/
theorem pigeon (n : Nat) : ∀ f : Nat → Nat, (∀ i, i < n → f i < n) → (∀ i j, i < n → j < n → f i = f j → i = j) → ∀ y, y < n → ∃ i, i < n ∧ f i = y := by
  induction n with
  | zero => intro f _ _ y hy; omega
  | succ n ih =>
    intro f hf hinj y hy
    have hm := hf n (by omega)
    have hg1 : ∀ i, i < n → (if f i = n then f n else f i) < n := by
      intro i hi
      have := hf i (by omega)
      split
      · rename_i h
        have : f n ≠ n := fun h2 => by have := hinj i n (by omega) (by omega) (by omega); omega
        omega
      · omega
    have hg2 : ∀ i j, i < n → j < n → (if f i = n then f n else f i) = (if f j = n then f n else f j) → i = j := by
      intro i j hi hj h
      split at h <;> split at h
      · exact hinj i j (by omega) (by omega) (by omega)
      · have := hinj n j (by omega) (by omega) h; omega
      · have := hinj i n (by omega) (by omega) h; omega
      · exact hinj i j (by omega) (by omega) h
    have hs := ih _ hg1 hg2
    by_cases hyn : y = f n
    · exact ⟨n, by omega, hyn.symm⟩
    · by_cases hy2 : y < n
      · obtain ⟨i, hi, h⟩ := hs y hy2
        split at h
        · omega
        · exact ⟨i, by omega, h⟩
      · obtain ⟨i, hi, h⟩ := hs (f n) (by omega)
        split at h
        · exact ⟨i, by omega, by omega⟩
        · have := hinj i n (by omega) (by omega) h; omega
theorem g_inv : cv 7 * cv 7 ^ 18446744069414584319 = 1 := by
  have h := g_full
  have e : cv 7 ^ (18446744069414584319 + 1) = cv 7 * cv 7 ^ 18446744069414584319 := by grind
  rw [← e]; exact h
theorem unit_pow {n : Nat} [NeZero n] {x y : Fin n} (h : x * y = 1) (k : Nat) : x ^ k * y ^ k = 1 := by
  induction k with
  | zero => grind
  | succ k ih => grind
theorem g_pow_ne (i : Nat) : cv 7 ^ i ≠ 0 := by
  intro h
  have := unit_pow g_inv i
  rw [h] at this
  exact one_ne_zero (by grind)
theorem g_inj {i j : Nat} (hi : i < 18446744069414584320) (hj : j < 18446744069414584320) (h : cv 7 ^ i = cv 7 ^ j) : i = j := by
  have key : ∀ i j : Nat, i < j → j < 18446744069414584320 → cv 7 ^ i = cv 7 ^ j → False := by
    intro i j hij hj h
    refine g_order (j - i) (by omega) (by omega) ?_
    have e : cv 7 ^ j = cv 7 ^ i * cv 7 ^ (j - i) := by
      rw [show j = i + (j - i) by omega]
      generalize j - i = d
      rw [Nat.add_sub_cancel_left]
      grind
    have u := unit_pow g_inv i
    rw [← h] at e
    generalize cv 7 ^ i = x at *
    generalize (cv 7 ^ 18446744069414584319) ^ i = y at *
    generalize cv 7 ^ (j - i) = z at *
    grind
  rcases Nat.lt_trichotomy i j with h1 | h1 | h1
  · exact (key i j h1 hj h).elim
  · exact h1
  · exact (key j i h1 hi h.symm).elim
theorem val_ne {x : F} (h : x ≠ 0) : x.val ≠ 0 := fun h2 => h (Fin.ext h2)
theorem is_power (x : F) (h : x ≠ 0) : ∃ i, i < 18446744069414584320 ∧ cv 7 ^ i = x := by
  have hx := val_ne h
  have hl := x.isLt
  have e := PP_eq
  obtain ⟨i, hi, hy⟩ := pigeon 18446744069414584320 (fun i => (cv 7 ^ i).val - 1)
    (fun i _ => by have := (cv 7 ^ i).isLt; have := val_ne (g_pow_ne i); show (cv 7 ^ i).val - 1 < _; omega)
    (fun i j hi hj hh => g_inj hi hj (Fin.ext (by
      have := val_ne (g_pow_ne i); have := val_ne (g_pow_ne j)
      have hh' : (cv 7 ^ i).val - 1 = (cv 7 ^ j).val - 1 := hh
      omega))) (x.val - 1) (by omega)
  refine ⟨i, hi, Fin.ext ?_⟩
  have := val_ne (g_pow_ne i)
  have hy' : (cv 7 ^ i).val - 1 = x.val - 1 := hy
  omega
theorem fermat (x : F) (h : x ≠ 0) : x ^ 18446744069414584320 = 1 := by
  obtain ⟨i, _, rfl⟩ := is_power x h
  rw [← pow_mul', Nat.mul_comm, pow_mul', g_full, one_pow']
/-- The inverse (of 0: 0). -/
def inv (x : F) : F := x ^ 18446744069414584319
theorem mul_inv {x : F} (h : x ≠ 0) : x * inv x = 1 := by
  have e : x ^ (18446744069414584319 + 1) = x * x ^ 18446744069414584319 := by grind
  unfold inv; rw [← e]; exact fermat x h
theorem inv_mul {x : F} (h : x ≠ 0) : inv x * x = 1 := by
  have := mul_inv h
  generalize inv x = y at *
  grind
theorem mul_ne_zero {x y : F} (hx : x ≠ 0) (hy : y ≠ 0) : x * y ≠ 0 := by
  intro h
  have h1 := mul_inv hx
  have h2 := mul_inv hy
  generalize inv x = a at *
  generalize inv y = b at *
  exact one_ne_zero (by grind)
theorem mul_eq_zero {x y : F} : x * y = 0 ↔ x = 0 ∨ y = 0 := by
  constructor
  · intro h
    by_cases hx : x = 0
    · exact .inl hx
    · by_cases hy : y = 0
      · exact .inr hy
      · exact absurd h (mul_ne_zero hx hy)
  · rintro (rfl | rfl) <;> grind
theorem pow_ne_zero {x : F} (hx : x ≠ 0) (n : Nat) : x ^ n ≠ 0 := by
  intro h
  have := unit_pow (mul_inv hx) n
  rw [h] at this
  exact one_ne_zero (by grind)
theorem inv_ne_zero {x : F} (h : x ≠ 0) : inv x ≠ 0 := fun h0 => one_ne_zero (by rw [← mul_inv h, h0]; grind)
theorem cancel {x y z : F} (hx : x ≠ 0) (h : x * y = x * z) : y = z := by
  have := mul_inv hx
  generalize inv x = b at *
  grind

section
variable {n : Nat} [NeZero n]
/-- The sum, the product, of the first m values. -/
def Sm : Nat → (Nat → Fin n) → Fin n
  | 0, _ => 0
  | m + 1, f => Sm m f + f m
def Pm : Nat → (Nat → Fin n) → Fin n
  | 0, _ => 1
  | m + 1, f => Pm m f * f m
theorem Sm_zero (f : Nat → Fin n) : Sm 0 f = 0 := rfl
theorem Sm_succ (m : Nat) (f : Nat → Fin n) : Sm (m + 1) f = Sm m f + f m := rfl
theorem Pm_succ (m : Nat) (f : Nat → Fin n) : Pm (m + 1) f = Pm m f * f m := rfl
theorem Sm_congr {m : Nat} {f g : Nat → Fin n} (h : ∀ i, i < m → f i = g i) : Sm m f = Sm m g := by
  induction m with
  | zero => rfl
  | succ m ih => rw [Sm_succ, Sm_succ, ih (fun i hi => h i (by omega)), h m (by omega)]
theorem Pm_congr {m : Nat} {f g : Nat → Fin n} (h : ∀ i, i < m → f i = g i) : Pm m f = Pm m g := by
  induction m with
  | zero => rfl
  | succ m ih => rw [Pm_succ, Pm_succ, ih (fun i hi => h i (by omega)), h m (by omega)]
theorem Sm_zeros {m : Nat} {f : Nat → Fin n} (h : ∀ i, i < m → f i = 0) : Sm m f = 0 := by
  induction m with
  | zero => rfl
  | succ m ih => rw [Sm_succ, ih (fun i hi => h i (by omega)), h m (by omega)]; grind
theorem Sm_add (m : Nat) (f g : Nat → Fin n) : Sm m (fun i => f i + g i) = Sm m f + Sm m g := by
  induction m with
  | zero => simp only [Sm_zero]; grind
  | succ m ih => simp only [Sm_succ, ih]; grind
theorem Sm_sub (m : Nat) (f g : Nat → Fin n) : Sm m (fun i => f i - g i) = Sm m f - Sm m g := by
  induction m with
  | zero => simp only [Sm_zero]; grind
  | succ m ih => simp only [Sm_succ, ih]; grind
theorem Sm_mul (m : Nat) (c : Fin n) (f : Nat → Fin n) : Sm m (fun i => c * f i) = c * Sm m f := by
  induction m with
  | zero => simp only [Sm_zero]; grind
  | succ m ih => simp only [Sm_succ, ih]; grind
theorem Sm_mul_right (m : Nat) (c : Fin n) (f : Nat → Fin n) : Sm m (fun i => f i * c) = Sm m f * c := by
  induction m with
  | zero => simp only [Sm_zero]; grind
  | succ m ih => simp only [Sm_succ, ih]; grind
theorem Sm_split (a b : Nat) (f : Nat → Fin n) : Sm (a + b) f = Sm a f + Sm b (fun i => f (a + i)) := by
  induction b with
  | zero => simp only [Nat.add_zero, Sm_zero]; grind
  | succ b ih => rw [← Nat.add_assoc, Sm_succ, ih, Sm_succ]; grind
theorem Sm_first (m : Nat) (f : Nat → Fin n) : Sm (m + 1) f = f 0 + Sm m (fun i => f (i + 1)) := by
  rw [Nat.add_comm m 1, Sm_split]
  simp only [Sm_succ, Sm_zero, Nat.add_comm 1]; grind
theorem Sm_swap (a b : Nat) (f : Nat → Nat → Fin n) : Sm a (fun i => Sm b (fun j => f i j)) = Sm b (fun j => Sm a (fun i => f i j)) := by
  induction a with
  | zero => simp only [Sm_zero]; exact (Sm_zeros (fun _ _ => rfl)).symm
  | succ a ih => simp only [Sm_succ, ih, Sm_add]
theorem Sm_rev (m : Nat) (f : Nat → Fin n) : Sm m f = Sm m (fun i => f (m - 1 - i)) := by
  induction m generalizing f with
  | zero => rfl
  | succ m ih =>
    rw [Sm_first, Sm_succ, ih]
    have e : Sm m (fun i => f (m - 1 - i + 1)) = Sm m (fun i => f (m + 1 - 1 - i)) := Sm_congr (fun i hi => by congr 1; omega)
    rw [e, show m + 1 - 1 - m = 0 by omega]; grind
/-- All values but one are 0. -/
theorem Sm_one {m j : Nat} {f : Nat → Fin n} (hj : j < m) (h : ∀ i, i < m → i ≠ j → f i = 0) : Sm m f = f j := by
  induction m with
  | zero => omega
  | succ m ih =>
    rw [Sm_succ]
    by_cases hm : j = m
    · rw [Sm_zeros (fun i hi => h i (by omega) (by omega)), hm]; grind
    · rw [ih (by omega) (fun i hi hn => h i (by omega) hn), h m (by omega) (by omega)]; grind
theorem Sm_ext {a b : Nat} {f : Nat → Fin n} (hab : a ≤ b) (h : ∀ i, a ≤ i → i < b → f i = 0) : Sm b f = Sm a f := by
  rw [show b = a + (b - a) by omega, Sm_split, Sm_zeros (m := b - a) (fun i hi => h (a + i) (by omega) (by omega))]; grind
end

/-! Rows: a function's first values; a row's coefficients. -/
def tab (m : Nat) (f : Nat → F) : List Int := (List.range m).map (fun j => un (f j))
theorem tab_length (m : Nat) (f : Nat → F) : (tab m f).length = m := by simp [tab]
theorem tab_get? (m : Nat) (f : Nat → F) (i : Nat) : (tab m f)[i]? = if i < m then some (un (f i)) else none := by
  unfold tab
  by_cases h : i < m
  · rw [if_pos h]; simp [h]
  · rw [if_neg h]; simp [h]
theorem tab_getD (m : Nat) (f : Nat → F) (i : Nat) (h : i < m) : (tab m f).getD i 0 = un (f i) := by
  rw [List.getD_eq_getElem?_getD, tab_get?, if_pos h]; rfl
theorem tab_ext {l : List Int} {m : Nat} {f : Nat → F} (hl : l.length = m) (h : ∀ i, i < m → l.getD i 0 = un (f i)) : l = tab m f := by
  apply List.ext_getElem?
  intro i
  rw [tab_get?]
  by_cases hi : i < m
  · rw [if_pos hi]
    have := h i hi
    rw [List.getD_eq_getElem?_getD, List.getElem?_eq_getElem (by omega)] at this
    rw [List.getElem?_eq_getElem (by omega)]
    simpa using this
  · rw [if_neg hi]; exact List.getElem?_eq_none (by omega)
theorem tab_congr {m : Nat} {f g : Nat → F} (h : ∀ i, i < m → f i = g i) : tab m f = tab m g :=
  tab_ext (tab_length m f) (fun i hi => by rw [tab_getD m f i hi, h i hi])
theorem tab_nil (f : Nat → F) : tab 0 f = [] := rfl
theorem tab_succ (m : Nat) (f : Nat → F) : tab (m + 1) f = tab m f ++ [un (f m)] := by
  unfold tab; rw [List.range_succ, List.map_append]; rfl
theorem tab_append (a b : Nat) (f g : Nat → F) : tab a f ++ tab b g = tab (a + b) (fun i => if i < a then f i else g (i - a)) := by
  apply tab_ext
  · rw [List.length_append, tab_length, tab_length]
  · intro i hi
    rw [List.getD_eq_getElem?_getD]
    by_cases h : i < a
    · rw [List.getElem?_append_left (by rw [tab_length]; exact h), tab_get?, if_pos h, if_pos h]; rfl
    · rw [List.getElem?_append_right (by rw [tab_length]; omega), tab_length, tab_get?, if_pos (by omega), if_neg h]; rfl
theorem tab_set (m : Nat) (f : Nat → F) (i : Nat) (v : F) : (tab m f).set i (un v) = tab m (fun j => if j = i then v else f j) := by
  apply tab_ext
  · rw [List.length_set, tab_length]
  · intro j hj
    rw [List.getD_eq_getElem?_getD, List.getElem?_set]
    by_cases e : i = j
    · subst e
      rw [if_pos rfl, if_pos (by rw [tab_length]; exact hj), if_pos rfl]; rfl
    · rw [if_neg e, tab_get?, if_pos hj, if_neg (Ne.symm e)]; rfl
theorem replicate_tab (m : Nat) : List.replicate m (0 : Int) = tab m (fun _ => 0) := by
  apply tab_ext (List.length_replicate)
  intro i hi
  rw [List.getD_eq_getElem?_getD, List.getElem?_replicate, if_pos hi]; rfl
/-- A row's word at a place, in the field (behind the row: 0). -/
def co (l : List Int) (i : Nat) : F := cv (l.getD i 0)
theorem co_tab (m : Nat) (f : Nat → F) (i : Nat) : co (tab m f) i = if i < m then f i else 0 := by
  unfold co
  rw [List.getD_eq_getElem?_getD, tab_get?]
  by_cases h : i < m
  · rw [if_pos h, if_pos h]; exact cv_un _
  · rw [if_neg h, if_neg h]; rfl
theorem co_tab_lt {m : Nat} {f : Nat → F} {i : Nat} (h : i < m) : co (tab m f) i = f i := by rw [co_tab, if_pos h]
theorem co_out {l : List Int} {i : Nat} (h : l.length ≤ i) : co l i = 0 := by
  unfold co; rw [List.getD_eq_getElem?_getD, List.getElem?_eq_none h]; rfl
/-- The first place of a 0, if there is one. -/
theorem first_zero (f : Nat → F) (n : Nat) : (∀ i, i < n → f i ≠ 0) ∨ ∃ m, m < n ∧ (∀ i, i < m → f i ≠ 0) ∧ f m = 0 := by
  induction n with
  | zero => exact .inl (fun i hi => by omega)
  | succ n ih =>
    rcases ih with h | ⟨m, hm, h1, h2⟩
    · by_cases c : f n = 0
      · exact .inr ⟨n, by omega, h, c⟩
      · refine .inl (fun i hi => ?_)
        by_cases e : i = n
        · rw [e]; exact c
        · exact h i (by omega)
    · exact .inr ⟨m, by omega, h1, h2⟩
theorem inv_zero : inv 0 = 0 := by
  unfold inv
  have : ∀ k : Nat, (0 : F) ^ (k + 1) = 0 := fun k => by grind
  exact this 18446744069414584318

def rt (k : Nat) : F := cv 7 ^ (18446744069414584320 / 2 ^ k)
theorem part_mul {k : Nat} (h : k ≤ 32) : 18446744069414584320 / 2 ^ k * 2 ^ k = 18446744069414584320 := by
  have key : ∀ k, k < 33 → 18446744069414584320 / 2 ^ k * 2 ^ k = 18446744069414584320 := by decide
  exact key k (by omega)
theorem part_pos {k : Nat} (h : k ≤ 32) : 0 < 18446744069414584320 / 2 ^ k := by
  have := part_mul h
  rcases Nat.eq_zero_or_pos (18446744069414584320 / 2 ^ k) with e | e
  · rw [e, Nat.zero_mul] at this; omega
  · exact e
theorem rt_pow_full {k : Nat} (h : k ≤ 32) : rt k ^ (2 ^ k) = 1 := by
  unfold rt; rw [← pow_mul', part_mul h, g_full]
theorem rt_zero : rt 0 = 1 := by have := rt_pow_full (k := 0) (by omega); rw [Nat.pow_zero] at this; grind
theorem rt_ne_zero (k : Nat) : rt k ≠ 0 := g_pow_ne _
theorem rt_order {k m : Nat} (h : k ≤ 32) (h0 : 0 < m) (h1 : m < 2 ^ k) : rt k ^ m ≠ 1 := by
  unfold rt; rw [← pow_mul']
  refine g_order _ (Nat.mul_pos (part_pos h) h0) ?_
  have := Nat.mul_lt_mul_of_pos_left h1 (part_pos h)
  rw [part_mul h] at this
  exact this
theorem rt_sq {k : Nat} (h : k < 32) : rt (k + 1) * rt (k + 1) = rt k := by
  have e1 := part_mul (k := k) (by omega)
  have e2 := part_mul (k := k + 1) (by omega)
  unfold rt; rw [← pow_add']; congr 1
  rw [Nat.pow_succ] at e2
  have hp : 0 < 2 ^ k := Nat.two_pow_pos k
  apply Nat.eq_of_mul_eq_mul_right hp
  rw [e1, Nat.pow_succ, ← e2]
  grind
theorem rt_pow_two {k j : Nat} (h : k + j ≤ 32) : rt (k + j) ^ (2 ^ j) = rt k := by
  induction j with
  | zero => rw [Nat.pow_zero, Nat.add_zero]; grind
  | succ j ih =>
    rw [Nat.pow_succ, Nat.mul_comm, pow_mul', show k + (j + 1) = k + j + 1 by omega]
    rw [show rt (k + j + 1) ^ 2 = rt (k + j + 1) * rt (k + j + 1) by grind, rt_sq (by omega)]
    exact ih (by omega)
theorem rt_pow_mod {k : Nat} (h : k ≤ 32) (m : Nat) : rt k ^ m = rt k ^ (m % 2 ^ k) := by
  have e : m = 2 ^ k * (m / 2 ^ k) + m % 2 ^ k := (Nat.div_add_mod m (2 ^ k)).symm
  have e2 : rt k ^ (2 ^ k * (m / 2 ^ k) + m % 2 ^ k) = rt k ^ (m % 2 ^ k) := by
    rw [pow_add', pow_mul', rt_pow_full h, one_pow']; grind
  rw [← e] at e2; exact e2
theorem rt_pow_one_iff {k : Nat} (h : k ≤ 32) (m : Nat) : rt k ^ m = 1 ↔ m % 2 ^ k = 0 := by
  constructor
  · intro e
    rw [rt_pow_mod h] at e
    rcases Nat.eq_zero_or_pos (m % 2 ^ k) with h0 | h0
    · exact h0
    · exact absurd e (rt_order h h0 (Nat.mod_lt _ (Nat.two_pow_pos k)))
  · intro e; rw [rt_pow_mod h, e]; grind
theorem rt_one : rt 1 = -1 := by
  have h1 : rt 1 * rt 1 = 1 := by have := rt_sq (k := 0) (by omega); rw [rt_zero] at this; exact this
  have h2 : rt 1 ≠ 1 := by have := rt_order (k := 1) (m := 1) (by omega) (by omega) (by decide); intro e; exact this (by rw [e]; grind)
  have h3 : (rt 1 - 1) * (rt 1 + 1) = 0 := by grind
  rcases mul_eq_zero.1 h3 with e | e
  · exact absurd (by grind) h2
  · grind
theorem rt_half {k : Nat} (h : k < 32) : rt (k + 1) ^ (2 ^ k) = -1 := by
  have := rt_pow_two (k := 1) (j := k) (by omega)
  rw [Nat.add_comm 1 k, rt_one] at this; exact this
theorem sub_self' {n : Nat} [NeZero n] (x : Fin n) : x - x = 0 := by grind
theorem eq_of_sub {n : Nat} [NeZero n] {x y : Fin n} (h : x - y = 0) : x = y := by grind
/-- The sum of a geometric row. -/
theorem geo {n : Nat} [NeZero n] (x : Fin n) (m : Nat) : (x - 1) * Sm m (fun i => x ^ i) = x ^ m - 1 := by
  induction m with
  | zero => simp only [Sm_zero]; grind
  | succ m ih => rw [Sm_succ]; grind
theorem geo_zero {x : F} {m : Nat} (h1 : x ≠ 1) (hm : x ^ m = 1) : Sm m (fun i => x ^ i) = 0 := by
  have := geo x m
  rw [hm] at this
  have h0 : (x - 1) * Sm m (fun i => x ^ i) = 0 := by rw [this]; exact sub_self' 1
  rcases mul_eq_zero.1 h0 with e | e
  · exact absurd (eq_of_sub e) h1
  · exact e

/-- How many coefficients a polynomial of at most n has, without noughts at its end; the trimmed row. -/
def dg : Nat → (Nat → F) → Nat
  | 0, _ => 0
  | n + 1, f => if f n = 0 then dg n f else n + 1
def tr (n : Nat) (f : Nat → F) : List Int := tab (dg n f) f
theorem dg_le (n : Nat) (f : Nat → F) : dg n f ≤ n := by
  induction n with
  | zero => exact Nat.le_refl _
  | succ n ih => unfold dg; split <;> omega
theorem dg_out {n : Nat} {f : Nat → F} {i : Nat} (h : dg n f ≤ i) (hi : i < n) : f i = 0 := by
  induction n with
  | zero => omega
  | succ n ih =>
    unfold dg at h
    split at h
    · rename_i h0
      by_cases e : i = n
      · rw [e]; exact h0
      · exact ih h (by omega)
    · omega
theorem dg_last {n : Nat} {f : Nat → F} (h : 0 < dg n f) : f (dg n f - 1) ≠ 0 := by
  induction n with
  | zero => exact absurd h (by unfold dg; omega)
  | succ n ih =>
    unfold dg at h ⊢
    split
    · rename_i h0; rw [if_pos h0] at h; exact ih h
    · rename_i h0; exact h0
theorem dg_congr {n : Nat} {f g : Nat → F} (h : ∀ i, i < n → f i = g i) : dg n f = dg n g := by
  induction n with
  | zero => rfl
  | succ n ih => unfold dg; rw [h n (by omega), ih (fun i hi => h i (by omega))]
theorem dg_ext {n m : Nat} {f : Nat → F} (hnm : n ≤ m) (h : ∀ i, n ≤ i → i < m → f i = 0) : dg m f = dg n f := by
  induction m with
  | zero => obtain rfl : n = 0 := by omega
            rfl
  | succ m ih =>
    by_cases e : n = m + 1
    · rw [e]
    · rw [show dg (m + 1) f = if f m = 0 then dg m f else m + 1 from rfl, if_pos (h m (by omega) (by omega))]
      exact ih (by omega) (fun i h1 h2 => h i h1 (by omega))
theorem dg_unique {n m : Nat} {f : Nat → F} (hm : m ≤ n) (h1 : ∀ i, m ≤ i → i < n → f i = 0) (h2 : 0 < m → f (m - 1) ≠ 0) : dg n f = m := by
  rw [dg_ext hm h1]
  cases m with
  | zero => rfl
  | succ m => have h := h2 (by omega)
              rw [Nat.add_sub_cancel] at h
              unfold dg; rw [if_neg h]
theorem tr_length (n : Nat) (f : Nat → F) : (tr n f).length = dg n f := tab_length _ _
theorem tr_congr {n : Nat} {f g : Nat → F} (h : ∀ i, i < n → f i = g i) : tr n f = tr n g := by
  unfold tr; rw [dg_congr h]
  exact tab_congr (fun i hi => h i (by have := dg_le n g; omega))
theorem tr_ext {n m : Nat} {f : Nat → F} (hnm : n ≤ m) (h : ∀ i, n ≤ i → i < m → f i = 0) : tr m f = tr n f := by
  unfold tr; rw [dg_ext hnm h]
/-- Trimmed rows of the same polynomial are the same. -/
theorem tr_same {n m : Nat} {f g : Nat → F} (h : ∀ i, (if i < n then f i else 0) = (if i < m then g i else 0)) : tr n f = tr m g := by
  have hf : tr n f = tr (max n m) (fun i => if i < n then f i else 0) := by
    rw [tr_ext (f := fun i => if i < n then f i else 0) (Nat.le_max_left n m) (fun i h1 _ => if_neg (by omega))]
    exact tr_congr (fun i hi => (if_pos hi).symm)
  have hg : tr m g = tr (max n m) (fun i => if i < m then g i else 0) := by
    rw [tr_ext (f := fun i => if i < m then g i else 0) (Nat.le_max_right n m) (fun i h1 _ => if_neg (by omega))]
    exact tr_congr (fun i hi => (if_pos hi).symm)
  rw [hf, hg]
  exact tr_congr (fun i _ => h i)
theorem tr_eq {n m : Nat} {f g : Nat → F} (h : ∀ i, f i = g i) (hf : ∀ i, n ≤ i → f i = 0) (hg : ∀ i, m ≤ i → g i = 0) : tr n f = tr m g := by
  apply tr_same
  intro i
  by_cases h1 : i < n <;> by_cases h2 : i < m
  · rw [if_pos h1, if_pos h2, h i]
  · rw [if_pos h1, if_neg h2, h i, hg i (by omega)]
  · rw [if_neg h1, if_pos h2, ← h i, hf i (by omega)]
  · rw [if_neg h1, if_neg h2]
theorem co_tr {n : Nat} {f : Nat → F} (hf : ∀ i, n ≤ i → f i = 0) (i : Nat) : co (tr n f) i = f i := by
  unfold tr; rw [co_tab]
  by_cases h : i < dg n f
  · rw [if_pos h]
  · rw [if_neg h]
    by_cases h2 : i < n
    · exact (dg_out (by omega) h2).symm
    · exact (hf i (by omega)).symm
theorem tr_tr (n : Nat) (f : Nat → F) : tr (dg n f) f = tr n f := (tr_ext (dg_le n f) (fun i h1 h2 => dg_out h1 h2)).symm
theorem tr_zero {n : Nat} {f : Nat → F} (h : ∀ i, i < n → f i = 0) : tr n f = [] := by
  rw [tr_ext (n := 0) (Nat.zero_le n) (fun i _ hi => h i hi)]; rfl

section
variable {R : Nat} [NeZero R]
/-- A polynomial's value; a product's coefficients; a derivative's. -/
def ev (n : Nat) (f : Nat → Fin R) (x : Fin R) : Fin R := Sm n (fun i => f i * x ^ i)
def cvl (f g : Nat → Fin R) (k : Nat) : Fin R := Sm (k + 1) (fun i => f i * g (k - i))
theorem ev_congr {n : Nat} {f g : Nat → Fin R} (x : Fin R) (h : ∀ i, i < n → f i = g i) : ev n f x = ev n g x := Sm_congr (fun i hi => by rw [h i hi])
theorem ev_ext {n m : Nat} {f : Nat → Fin R} (x : Fin R) (hnm : n ≤ m) (h : ∀ i, n ≤ i → i < m → f i = 0) : ev m f x = ev n f x :=
  Sm_ext hnm (fun i h1 h2 => by rw [h i h1 h2]; grind)
theorem ev_add (n : Nat) (f g : Nat → Fin R) (x : Fin R) : ev n (fun i => f i + g i) x = ev n f x + ev n g x := by
  unfold ev; rw [← Sm_add]; exact Sm_congr (fun i _ => by grind)
theorem ev_sub (n : Nat) (f g : Nat → Fin R) (x : Fin R) : ev n (fun i => f i - g i) x = ev n f x - ev n g x := by
  unfold ev; rw [← Sm_sub]; exact Sm_congr (fun i _ => by grind)
theorem cvl_congr {k : Nat} {f f' g g' : Nat → Fin R} (h : ∀ i, i ≤ k → f i = f' i) (h2 : ∀ i, i ≤ k → g i = g' i) : cvl f g k = cvl f' g' k :=
  Sm_congr (fun i hi => by rw [h i (by omega), h2 (k - i) (by omega)])
theorem cvl_comm (f g : Nat → Fin R) (k : Nat) : cvl f g k = cvl g f k := by
  unfold cvl
  rw [Sm_rev]
  refine Sm_congr (fun i hi => ?_)
  rw [show k + 1 - 1 - i = k - i by omega, show k - (k - i) = i by omega]
  exact mul_comm' _ _
where mul_comm' (a b : Fin R) : a * b = b * a := by grind
theorem cvl_add_right (f g g' : Nat → Fin R) (k : Nat) : cvl f (fun i => g i + g' i) k = cvl f g k + cvl f g' k := by
  unfold cvl; rw [← Sm_add]; exact Sm_congr (fun i _ => by grind)
theorem cvl_sub_left (f f' g : Nat → Fin R) (k : Nat) : cvl (fun i => f i - f' i) g k = cvl f g k - cvl f' g k := by
  unfold cvl; rw [← Sm_sub]; exact Sm_congr (fun i _ => by grind)
/-- A sum over a triangle, by columns. -/
theorem Sm_tri (k : Nat) (a : Nat → Nat → Fin R) : Sm k (fun i => Sm (i + 1) (fun j => a i j)) = Sm k (fun j => Sm (k - j) (fun i => a (i + j) j)) := by
  induction k with
  | zero => rfl
  | succ k ih =>
    rw [Sm_succ, ih]
    rw [show Sm (k + 1) (fun j => Sm (k + 1 - j) (fun i => a (i + j) j)) = Sm (k + 1) (fun j => Sm (k - j) (fun i => a (i + j) j) + a k j) from
      Sm_congr (fun j hj => by rw [show k + 1 - j = (k - j) + 1 by omega, Sm_succ, show k - j + j = k by omega])]
    rw [Sm_add, Sm_succ (f := fun j => Sm (k - j) (fun i => a (i + j) j)), Nat.sub_self, Sm_zero]
    exact (add_zero' _ _).symm
where add_zero' (a b : Fin R) : a + 0 + b = a + b := by grind
theorem cvl_assoc (f g h : Nat → Fin R) (k : Nat) : cvl (cvl f g) h k = cvl f (cvl g h) k := by
  unfold cvl
  have e1 : Sm (k + 1) (fun i => Sm (i + 1) (fun j => f j * g (i - j)) * h (k - i)) = Sm (k + 1) (fun i => Sm (i + 1) (fun j => f j * g (i - j) * h (k - i))) :=
    Sm_congr (fun i _ => (Sm_mul_right _ _ _).symm)
  rw [e1, Sm_tri]
  refine Sm_congr (fun j hj => ?_)
  rw [← Sm_mul, show k + 1 - j = k - j + 1 by omega]
  refine Sm_congr (fun i hi => ?_)
  rw [show i + j - j = i by omega, show k - (i + j) = k - j - i by omega]
  exact mul_assoc' _ _ _
where mul_assoc' (a b c : Fin R) : a * b * c = a * (b * c) := by grind
/-- What a product is behind both lengths. -/
theorem cvl_out {n m : Nat} {f g : Nat → Fin R} (hf : ∀ i, n ≤ i → f i = 0) (hg : ∀ i, m ≤ i → g i = 0) {k : Nat} (hk : n + m ≤ k + 1) : cvl f g k = 0 := by
  refine Sm_zeros (fun i hi => ?_)
  by_cases h : n ≤ i
  · rw [hf i h]; exact zero_mul' _
  · rw [hg (k - i) (by omega)]; exact mul_zero' _
where
  zero_mul' (a : Fin R) : 0 * a = 0 := by grind
  mul_zero' (a : Fin R) : a * 0 = 0 := by grind
/-- A product's values. -/
theorem ev_mul {n m : Nat} {f g : Nat → Fin R} (hf : ∀ i, n ≤ i → f i = 0) (hg : ∀ i, m ≤ i → g i = 0) (x : Fin R) : ev (n + m) (cvl f g) x = ev n f x * ev m g x := by
  have e1 : ev (n + m) (cvl f g) x = Sm (n + m) (fun i => Sm (i + 1) (fun j => f j * x ^ j * (g (i - j) * x ^ (i - j)))) := by
    unfold ev cvl
    refine Sm_congr (fun i _ => ?_)
    rw [← Sm_mul_right]
    refine Sm_congr (fun j hj => ?_)
    have : x ^ i = x ^ j * x ^ (i - j) := by rw [← pow_add']; congr 1; omega
    rw [this]; exact four _ _ _ _
  rw [e1, Sm_tri, Sm_ext (Nat.le_add_right n m) (fun j h1 h2 => Sm_zeros (fun i _ => by rw [hf j h1]; exact zero3 _ _))]
  unfold ev
  rw [← Sm_mul_right]
  refine Sm_congr (fun j hj => ?_)
  rw [← Sm_mul, Sm_ext (show m ≤ n + m - j by omega) (fun i h1 h2 => by rw [show i + j - j = i by omega, hg i h1]; exact zero4 _ _)]
  exact Sm_congr (fun i _ => by rw [show i + j - j = i by omega])
where
  four (a b c d : Fin R) : a * b * (c * d) = a * c * (b * d) := by grind
  zero3 (a b : Fin R) : 0 * a * b = 0 := by grind
  zero4 (a b : Fin R) : a * (0 * b) = 0 := by grind
/-- Horner's rule: what is told from a place on. -/
def hn (n : Nat) (f : Nat → Fin R) (x : Fin R) (i : Nat) : Fin R := Sm (n - i) (fun j => f (i + j) * x ^ j)
theorem hn_top (n : Nat) (f : Nat → Fin R) (x : Fin R) : hn n f x n = 0 := by unfold hn; rw [Nat.sub_self]; rfl
theorem hn_zero (n : Nat) (f : Nat → Fin R) (x : Fin R) : hn n f x 0 = ev n f x := by
  unfold hn ev; rw [Nat.sub_zero]; exact Sm_congr (fun i _ => by rw [Nat.zero_add])
theorem hn_step {n : Nat} (f : Nat → Fin R) (x : Fin R) {i : Nat} (h : i < n) : hn n f x i = hn n f x (i + 1) * x + f i := by
  unfold hn
  rw [show n - i = (n - (i + 1)) + 1 by omega, Sm_first, Nat.add_zero, ← Sm_mul_right]
  have e : Sm (n - (i + 1)) (fun j => f (i + (j + 1)) * x ^ (j + 1)) = Sm (n - (i + 1)) (fun j => f (i + 1 + j) * x ^ j * x) :=
    Sm_congr (fun j _ => by rw [show i + (j + 1) = i + 1 + j by omega]; exact pw _ _ _)
  rw [e]; exact fin _ _ _
where
  pw (a x : Fin R) (j : Nat) : a * x ^ (j + 1) = a * x ^ j * x := by grind
  fin (a s x : Fin R) : a * x ^ 0 + s = s + a := by grind
end

/-- A polynomial with as many unlike roots as places is 0 everywhere. -/
theorem ev_linear (n : Nat) (f : Nat → F) (a x : F) : ev (n + 1) f x - ev (n + 1) f a = (x - a) * ev n (fun i => hn (n + 1) f a (i + 1)) x := by
  have key : ∀ m, m ≤ n → Sm m (fun i => f i * x ^ i) + hn (n + 1) f a m * x ^ m = ev (n + 1) f a + (x - a) * Sm m (fun i => hn (n + 1) f a (i + 1) * x ^ i) := by
    intro m
    induction m with
    | zero => intro _; rw [Sm_zero, Sm_zero, hn_zero]; exact k0 _ _ _
    | succ m ih =>
      intro hm
      have h := ih (by omega)
      have hs := hn_step f a (show m < n + 1 by omega)
      rw [Sm_succ, Sm_succ]
      rw [hs] at h
      exact k1 _ _ _ _ _ _ _ m h
  have h := key n (Nat.le_refl n)
  have hl : hn (n + 1) f a n = f n := by
    rw [hn_step f a (by omega), hn_top]; exact k2 _ _
  rw [hl] at h
  unfold ev at *
  rw [Sm_succ (f := fun i => f i * x ^ i), h]
  exact k3 _ _
where
  k0 (a x e : F) : 0 + e * x ^ 0 = e + (x - a) * 0 := by grind
  k1 (s h f0 a x e t : F) (m : Nat) (H : s + (h * a + f0) * x ^ m = e + (x - a) * t) : s + f0 * x ^ m + h * x ^ (m + 1) = e + (x - a) * (t + h * x ^ m) := by grind
  k2 (a f0 : F) : 0 * a + f0 = f0 := by grind
  k3 (e t : F) : e + t - e = t := by grind
theorem roots_zero (n : Nat) : ∀ (f : Nat → F) (z : Nat → F), (∀ i j, i < n → j < n → i ≠ j → z i ≠ z j) → (∀ i, i < n → ev n f (z i) = 0) → ∀ i, i < n → f i = 0 := by
  induction n with
  | zero => intro f z _ _ i hi; omega
  | succ n ih =>
    intro f z hz hr
    have hlin := fun x => ev_linear n f (z n) x
    have hq : ∀ i, i < n → ev n (fun i => hn (n + 1) f (z n) (i + 1)) (z i) = 0 := by
      intro i hi
      have h := hlin (z i)
      rw [hr i (by omega), hr n (by omega)] at h
      have h0 : (z i - z n) * ev n (fun i => hn (n + 1) f (z n) (i + 1)) (z i) = 0 := by rw [← h]; exact sub_self' 0
      rcases mul_eq_zero.1 h0 with e | e
      · exact absurd (eq_of_sub e) (hz i n (by omega) (by omega) (by omega))
      · exact e
    have h0 := ih (fun i => hn (n + 1) f (z n) (i + 1)) z (fun i j hi hj => hz i j (by omega) (by omega)) hq
    have hh : ∀ i, i ≤ n + 1 → hn (n + 1) f (z n) i = 0 := by
      intro i hi
      by_cases e0 : i = 0
      · rw [e0, hn_zero]; exact hr n (by omega)
      · by_cases e1 : i = n + 1
        · rw [e1, hn_top]
        · have := h0 (i - 1) (by omega)
          rw [show i - 1 + 1 = i by omega] at this; exact this
    intro i hi
    have hs := hn_step f (z n) hi
    rw [hh i (by omega), hh (i + 1) (by omega)] at hs
    rw [hs]; exact r1 _ _
where r1 (a f0 : F) : f0 = 0 * a + f0 := by grind
theorem co_trF {n : Nat} {f : Nat → F} (hf : ∀ i, n ≤ i → f i = 0) : co (tr n f) = f := funext (co_tr hf)
theorem row_out (l : List Int) : ∀ i, l.length ≤ i → co l i = 0 := fun i hi => co_out hi
theorem tr_len_le (n : Nat) (f : Nat → F) : (tr n f).length ≤ n := by rw [tr_length]; exact dg_le n f

def one (i : Nat) : F := if i = 0 then 1 else 0
def lin (a : F) (i : Nat) : F := if i = 0 then -a else if i = 1 then 1 else 0
def frp : Nat → (Nat → F) → (Nat → F)
  | 0, _ => one
  | n + 1, z => cvl (frp n z) (lin (z n))
theorem one_out {i : Nat} (h : 1 ≤ i) : one i = 0 := if_neg (by omega)
theorem lin_out (a : F) {i : Nat} (h : 2 ≤ i) : lin a i = 0 := by unfold lin; rw [if_neg (by omega), if_neg (by omega)]
theorem frp_out (n : Nat) (z : Nat → F) : ∀ i, n + 1 ≤ i → frp n z i = 0 := by
  induction n with
  | zero => intro i hi; exact one_out (by omega)
  | succ n ih => intro i hi; exact cvl_out (n := n + 1) (m := 2) ih (fun j hj => lin_out _ hj) (by omega)
theorem cvl_lin_succ (f : Nat → F) (a : F) (i : Nat) : cvl f (lin a) (i + 1) = f i - f (i + 1) * a := by
  unfold cvl
  rw [Sm_succ, Sm_succ, Sm_zeros (fun j hj => by rw [lin_out a (show 2 ≤ i + 1 - j by omega)]; exact z1 _)]
  rw [show i + 1 - i = 1 by omega, Nat.sub_self]
  exact z2 _ _ _
where
  z1 (a : F) : a * 0 = 0 := by grind
  z2 (x y a : F) : 0 + x * lin a 1 + y * lin a 0 = x - y * a := by
    rw [show lin a 1 = 1 from rfl, show lin a 0 = -a from rfl]; grind
theorem ev_one (n : Nat) (x : F) (hn : 1 ≤ n) : ev n one x = 1 := by
  rw [ev_ext x hn (fun i h1 _ => one_out h1)]
  exact k x
where k {R : Nat} [NeZero R] (x : Fin R) : 0 + 1 * x ^ 0 = 1 := by grind
theorem ev_lin (a x : F) : ev 2 (lin a) x = x - a := by
  unfold ev
  rw [Sm_succ, Sm_succ, Sm_zero, show lin a 0 = -a from rfl, show lin a 1 = 1 from rfl]; exact k a x
where k (a x : F) : 0 + -a * x ^ 0 + 1 * x ^ 1 = x - a := by grind
theorem ev_frp (n : Nat) (z : Nat → F) (x : F) : ev (n + 1) (frp n z) x = Pm n (fun i => x - z i) := by
  induction n with
  | zero => exact ev_one 1 x (by omega)
  | succ n ih =>
    rw [Pm_succ, ← ih, show frp (n + 1) z = cvl (frp n z) (lin (z n)) from rfl, ← ev_lin (z n) x,
      ← ev_mul (frp_out n z) (fun j hj => lin_out (z n) hj) x]
    exact (ev_ext x (by omega) (fun i h1 _ => cvl_out (n := n + 1) (m := 2) (frp_out n z) (fun j hj => lin_out (z n) hj) (by omega))).symm
theorem Pm_eq_zero {n j : Nat} {f : Nat → F} (hj : j < n) (h : f j = 0) : Pm n f = 0 := by
  induction n with
  | zero => omega
  | succ n ih =>
    rw [Pm_succ]
    by_cases e : j = n
    · rw [← e, h]; exact k1 _
    · rw [ih (by omega)]; exact k2 _
where
  k1 (a : F) : a * 0 = 0 := by grind
  k2 (a : F) : 0 * a = 0 := by grind

def der (f : Nat → F) (i : Nat) : F := f (i + 1) * cv ((i + 1 : Nat) : Int)
theorem der_out {n : Nat} {f : Nat → F} (hf : ∀ i, n ≤ i → f i = 0) : ∀ i, n - 1 ≤ i → der f i = 0 := by
  intro i hi; unfold der; rw [hf (i + 1) (by omega)]; exact k _
where k {R : Nat} [NeZero R] (x : Fin R) : 0 * x = 0 := by grind
theorem cv_succ (i : Nat) : cv ((i + 1 : Nat) : Int) = cv (i : Int) + 1 := by
  rw [show (((i + 1 : Nat)) : Int) = (i : Int) + 1 by omega, cv_add, cv_one]
theorem Sm_const (n : Nat) (c : F) : Sm n (fun _ => c) = c * cv (n : Int) := by
  induction n with
  | zero => rw [Sm_zero, show cv ((0 : Nat) : Int) = 0 from rfl]; exact k0 c
  | succ n ih => rw [Sm_succ, ih, cv_succ]; exact k1 _ _
where
  k0 {R : Nat} [NeZero R] (c : Fin R) : 0 = c * 0 := by grind
  k1 {R : Nat} [NeZero R] (c x : Fin R) : c * x + c = c * (x + 1) := by grind
/-- The rule of products. -/
theorem der_cvl (f g : Nat → F) (k : Nat) : der (cvl f g) k = cvl (der f) g k + cvl f (der g) k := by
  have h1 : cvl (der f) g k = Sm (k + 2) (fun i => cv (i : Int) * (f i * g (k + 1 - i))) := by
    rw [Sm_first, show cv ((0 : Nat) : Int) = 0 from rfl]
    unfold cvl
    rw [k1]
    refine Sm_congr (fun i hi => ?_)
    unfold der
    rw [show k + 1 - (i + 1) = k - i by omega]; exact k2 _ _ _
  have h2 : cvl f (der g) k = Sm (k + 2) (fun i => cv ((k + 1 - i : Nat) : Int) * (f i * g (k + 1 - i))) := by
    rw [Sm_succ, show k + 1 - (k + 1) = 0 by omega, show cv ((0 : Nat) : Int) = 0 from rfl]
    unfold cvl
    rw [k3]
    refine Sm_congr (fun i hi => ?_)
    unfold der
    rw [show k - i + 1 = k + 1 - i by omega]; exact k4 _ _ _
  rw [h1, h2, ← Sm_add]
  unfold der cvl
  rw [← Sm_mul_right]
  refine Sm_congr (fun i hi => ?_)
  have : (((k + 1 : Nat)) : Int) = (i : Int) + ((k + 1 - i : Nat) : Int) := by omega
  rw [this, cv_add]; exact k5 _ _ _
where
  k1 {R : Nat} [NeZero R] {a s : Fin R} : 0 * a + s = s := by grind
  k2 {R : Nat} [NeZero R] (a c b : Fin R) : a * c * b = c * (a * b) := by grind
  k3 {R : Nat} [NeZero R] {a s : Fin R} : s + 0 * a = s := by grind
  k4 {R : Nat} [NeZero R] (a b c : Fin R) : a * (b * c) = c * (a * b) := by grind
  k5 {R : Nat} [NeZero R] (a c d : Fin R) : a * (c + d) = c * a + d * a := by grind
theorem der_lin (a : F) : der (lin a) = one := by
  funext i
  unfold der
  match i with
  | 0 => rw [show lin a (0 + 1) = 1 from rfl, show cv (((0 + 1 : Nat)) : Int) = cv 1 from rfl, cv_one]; exact k1 1
  | i + 1 => rw [lin_out a (by omega), one_out (by omega)]; exact k0 _
where
  k0 {R : Nat} [NeZero R] (a : Fin R) : 0 * a = 0 := by grind
  k1 {R : Nat} [NeZero R] (a : Fin R) : 1 * 1 = (1 : Fin R) := by grind
theorem cvl_one (f : Nat → F) (k : Nat) : cvl f one k = f k := by
  unfold cvl
  rw [Sm_succ, Sm_zeros (fun i hi => by rw [one_out (show 1 ≤ k - i by omega)]; exact k0 _), Nat.sub_self, show one 0 = 1 from rfl]
  exact k1 _
where
  k0 {R : Nat} [NeZero R] (a : Fin R) : a * 0 = 0 := by grind
  k1 {R : Nat} [NeZero R] (a : Fin R) : 0 + a * 1 = a := by grind
theorem cvl_one_left (f : Nat → F) (k : Nat) : cvl one f k = f k := by rw [cvl_comm, cvl_one]
/-- The derivative of the polynomial of roots, at one of them. -/
theorem ev_der_frp (n : Nat) (z : Nat → F) (x : F) : ev (n + 1) (der (frp (n + 1) z)) x = ev n (der (frp n z)) x * (x - z n) + Pm n (fun i => x - z i) := by
  have e : ev (n + 1) (der (frp (n + 1) z)) x = ev (n + 1) (fun i => cvl (der (frp n z)) (lin (z n)) i + frp n z i) x := by
    refine ev_congr x (fun i _ => ?_)
    rw [show frp (n + 1) z = cvl (frp n z) (lin (z n)) from rfl, der_cvl, der_lin, cvl_one]
  rw [e, ev_add, ev_frp]
  congr 1
  have h := ev_mul (n := n) (m := 2) (f := der (frp n z)) (g := lin (z n)) (fun i hi => der_out (frp_out n z) i hi) (fun j hj => lin_out (z n) hj) x
  rw [ev_lin] at h
  rw [← h]
  exact (ev_ext x (by omega) (fun i h1 _ => cvl_out (n := n) (m := 2) (fun i hi => der_out (frp_out n z) i hi) (fun j hj => lin_out (z n) hj) (by omega))).symm
theorem slope (n : Nat) (z : Nat → F) (i : Nat) (hi : i < n) : ev n (der (frp n z)) (z i) = Pm n (fun j => if j = i then 1 else z i - z j) := by
  induction n with
  | zero => omega
  | succ n ih =>
    rw [ev_der_frp, Pm_succ]
    by_cases e : i = n
    · subst e
      rw [if_pos rfl, sub_self', Pm_congr (f := fun j => if j = i then 1 else z i - z j) (g := fun j => z i - z j) (fun j hj => if_neg (by omega))]
      exact k0 _ _
    · rw [ih (by omega), Pm_eq_zero (f := fun j => z i - z j) (j := i) (by omega) (sub_self' (z i)), if_neg (Ne.symm e)]
      exact k1 _ _
where
  k0 {R : Nat} [NeZero R] (a b : Fin R) : a * 0 + b = b * 1 := by grind
  k1 {R : Nat} [NeZero R] (a b : Fin R) : a * b + 0 = a * b := by grind

theorem mul_pow' {n : Nat} [NeZero n] (x y : Fin n) (k : Nat) : (x * y) ^ k = x ^ k * y ^ k := by
  induction k with
  | zero => grind
  | succ k ih => rw [pow_add', pow_add', pow_add', ih]; grind
theorem mul_cancel_of {n : Nat} [NeZero n] {u v x y : Fin n} (h : u * v = 1) (e : x * v = y * v) : x = y := by
  have h1 : x = x * v * u := by grind
  have h2 : y = y * v * u := by grind
  rw [h1, h2, e]
theorem one_mul_eq {n : Nat} [NeZero n] {u v : Fin n} (h : u * v = 1) (k : Nat) : u ^ k * v ^ k = 1 := by rw [← mul_pow', h, one_pow']
/-- The root of a direction (0: forth). -/
def dr (k : Nat) (d : Int) : F := if d = 0 then rt k else inv (rt k)
theorem dr_fwd (k : Nat) : dr k 0 = rt k := if_pos rfl
theorem dr_inv (k : Nat) : dr k 1 = inv (rt k) := if_neg (by omega)
theorem dr_ne_zero (k : Nat) (d : Int) : dr k d ≠ 0 := by
  unfold dr; split
  · exact rt_ne_zero k
  · exact inv_ne_zero (rt_ne_zero k)
theorem inv_pow_one {x : F} {n : Nat} (hx : x ≠ 0) : inv x ^ n = 1 ↔ x ^ n = 1 := by
  have h := one_mul_eq (mul_inv hx) n
  constructor
  · intro e; rw [e] at h; rw [← h]; exact (k1 _).symm
  · intro e; rw [e] at h; rw [← h]; exact (k2 _).symm
where
  k1 {R : Nat} [NeZero R] (x : Fin R) : x * 1 = x := by grind
  k2 {R : Nat} [NeZero R] (x : Fin R) : 1 * x = x := by grind
theorem dr_pow_one_iff {k : Nat} (h : k ≤ 32) (d : Int) (m : Nat) : dr k d ^ m = 1 ↔ m % 2 ^ k = 0 := by
  unfold dr; split
  · exact rt_pow_one_iff h m
  · rw [inv_pow_one (rt_ne_zero k)]; exact rt_pow_one_iff h m
theorem dr_full {k : Nat} (h : k ≤ 32) (d : Int) : dr k d ^ (2 ^ k) = 1 := (dr_pow_one_iff h d _).2 (Nat.mod_self _)
theorem dr_inj {k i j : Nat} (h : k ≤ 32) (d : Int) (hi : i < 2 ^ k) (hj : j < 2 ^ k) (e : dr k d ^ i = dr k d ^ j) : i = j := by
  have key : ∀ i j : Nat, i < j → j < 2 ^ k → dr k d ^ i = dr k d ^ j → False := by
    intro i j hij hj e
    have e2 : dr k d ^ j = dr k d ^ i * dr k d ^ (j - i) := by rw [← pow_add']; congr 1; omega
    have e3 : dr k d ^ (j - i) = 1 := by
      refine cancel (pow_ne_zero (dr_ne_zero k d) i) ?_
      rw [← e2, ← e]; exact (k1 _).symm
    have := (dr_pow_one_iff h d _).1 e3
    rw [Nat.mod_eq_of_lt (by omega)] at this
    omega
  rcases Nat.lt_trichotomy i j with h1 | h1 | h1
  · exact (key i j h1 hj e).elim
  · exact h1
  · exact (key j i h1 hi e.symm).elim
where
  k1 {R : Nat} [NeZero R] (x : Fin R) : x * 1 = x := by grind
theorem dr_other (k : Nat) {d : Int} (hd : d = 0 ∨ d = 1) : dr k d * dr k (1 - d) = 1 := by
  rcases hd with rfl | rfl
  · rw [dr_fwd, show (1 : Int) - 0 = 1 by omega, dr_inv]; exact mul_inv (rt_ne_zero k)
  · rw [show (1 : Int) - 1 = 0 by omega, dr_fwd, dr_inv]; exact inv_mul (rt_ne_zero k)
/-- A row's transform to a root: at place j the sum of all f i · (w^j)^i. -/
def dft (n : Nat) (w : F) (f : Nat → F) (j : Nat) : F := Sm n (fun i => f i * (w ^ j) ^ i)
theorem dft_ev (n : Nat) (w : F) (f : Nat → F) (j : Nat) : dft n w f j = ev n f (w ^ j) := rfl
theorem dft_congr {n : Nat} {w : F} {f g : Nat → F} (h : ∀ i, i < n → f i = g i) (j : Nat) : dft n w f j = dft n w g j := Sm_congr (fun i hi => by rw [h i hi])
theorem dft_scale (n : Nat) (w : F) (f : Nat → F) (c : F) (j : Nat) : dft n w (fun i => f i * c) j = dft n w f j * c := by
  unfold dft; rw [← Sm_mul_right]
  exact Sm_congr (fun i _ => k1 _ _ _)
where
  k1 {R : Nat} [NeZero R] (x c y : Fin R) : x * c * y = x * y * c := by grind
theorem ortho {k : Nat} (h : k ≤ 32) {d : Int} (hd : d = 0 ∨ d = 1) {t i : Nat} (ht : t < 2 ^ k) (hi : i < 2 ^ k) :
    Sm (2 ^ k) (fun j => (dr k d ^ j) ^ t * (dr k (1 - d) ^ i) ^ j) = if t = i then cv ((2 ^ k : Nat) : Int) else 0 := by
  have e : ∀ j : Nat, (dr k d ^ j) ^ t * (dr k (1 - d) ^ i) ^ j = (dr k d ^ t * dr k (1 - d) ^ i) ^ j := by
    intro j
    rw [mul_pow', ← pow_mul', ← pow_mul', ← pow_mul', Nat.mul_comm j t]
  rw [Sm_congr (fun j _ => e j)]
  by_cases c : t = i
  · subst c
    rw [if_pos rfl, one_mul_eq (dr_other k hd), Sm_congr (g := fun _ => (1 : F)) (fun j _ => one_pow' j), Sm_const]
    exact k2 _
  · rw [if_neg c]
    refine geo_zero (fun h1 => c ?_) ?_
    · refine dr_inj h d ht hi ?_
      refine mul_cancel_of (one_mul_eq (dr_other k hd) i) ?_
      rw [h1, one_mul_eq (dr_other k hd)]
    · rw [mul_pow', ← pow_mul', ← pow_mul', Nat.mul_comm t, Nat.mul_comm i, pow_mul', pow_mul', dr_full h, dr_full h, one_pow', one_pow']
      exact k2 _
where
  k2 {R : Nat} [NeZero R] (x : Fin R) : 1 * x = x := by grind
theorem dft_dft {k : Nat} (h : k ≤ 32) {d : Int} (hd : d = 0 ∨ d = 1) (f : Nat → F) {i : Nat} (hi : i < 2 ^ k) :
    dft (2 ^ k) (dr k (1 - d)) (dft (2 ^ k) (dr k d) f) i = f i * cv ((2 ^ k : Nat) : Int) := by
  have e1 : dft (2 ^ k) (dr k (1 - d)) (dft (2 ^ k) (dr k d) f) i = Sm (2 ^ k) (fun j => Sm (2 ^ k) (fun t => f t * ((dr k d ^ j) ^ t * (dr k (1 - d) ^ i) ^ j))) := by
    unfold dft
    refine Sm_congr (fun j _ => ?_)
    rw [← Sm_mul_right]
    exact Sm_congr (fun t _ => k3 _ _ _)
  rw [e1, Sm_swap, Sm_congr (g := fun t => f t * (if t = i then cv ((2 ^ k : Nat) : Int) else 0)) (fun t ht => by rw [Sm_mul, ortho h hd ht hi])]
  rw [Sm_one hi (fun t _ hne => by rw [if_neg hne]; exact k0 _), if_pos rfl]
where
  k0 {R : Nat} [NeZero R] (x : Fin R) : x * 0 = 0 := by grind
  k3 {R : Nat} [NeZero R] (x y z : Fin R) : x * y * z = x * (y * z) := by grind
/-- The inverse of 2^k. -/
def sh (k : Nat) : F := inv (cv ((2 ^ k : Nat) : Int))
theorem two_pow_ne {k : Nat} (h : k ≤ 32) : cv ((2 ^ k : Nat) : Int) ≠ 0 := by
  have h1 : 2 ^ k ≤ 2 ^ 32 := Nat.pow_le_pow_right (by omega) h
  have h2 := Nat.two_pow_pos k
  intro e
  have := cv_eq_zero.1 e
  omega
theorem mul_sh {k : Nat} (h : k ≤ 32) : cv ((2 ^ k : Nat) : Int) * sh k = 1 := mul_inv (two_pow_ne h)
/-- The transform of a direction: divided, if it goes back. -/
def tf (k : Nat) (d : Int) (f : Nat → F) (j : Nat) : F := if d = 1 then dft (2 ^ k) (dr k d) f j * sh k else dft (2 ^ k) (dr k d) f j
theorem tf_congr {k : Nat} {d : Int} {f g : Nat → F} (h : ∀ i, i < 2 ^ k → f i = g i) (j : Nat) : tf k d f j = tf k d g j := by
  unfold tf; rw [dft_congr h]
theorem tf_tf {k : Nat} (h : k ≤ 32) {d : Int} (hd : d = 0 ∨ d = 1) (f : Nat → F) {i : Nat} (hi : i < 2 ^ k) : tf k (1 - d) (tf k d f) i = f i := by
  have key := dft_dft h hd f hi
  have hs := mul_sh h
  rcases hd with rfl | rfl
  · have e : tf k (1 - 0) (tf k 0 f) i = dft (2 ^ k) (dr k (1 - 0)) (dft (2 ^ k) (dr k 0) f) i * sh k := by
      unfold tf; rw [if_pos (by omega)]
      exact congrArg (· * sh k) (dft_congr (fun j _ => if_neg (by omega)) i)
    rw [e, key, k3, hs]; exact k1 _
  · have e : tf k (1 - 1) (tf k 1 f) i = dft (2 ^ k) (dr k (1 - 1)) (dft (2 ^ k) (dr k 1) f) i * sh k := by
      unfold tf; rw [if_neg (by omega), ← dft_scale]
      exact dft_congr (fun j _ => if_pos rfl) i
    rw [e, key, k3, hs]; exact k1 _
where
  k1 {R : Nat} [NeZero R] (x : Fin R) : x * 1 = x := by grind
  k3 {R : Nat} [NeZero R] (x y z : Fin R) : x * y * z = x * (y * z) := by grind
/-- A place of k bits, its bits turned about. -/
def rvm : Nat → Nat → Nat
  | 0, _ => 0
  | k + 1, i => i % 2 * 2 ^ k + rvm k (i / 2)
/-- The row behind j stages. -/
def hv (k : Nat) (w : F) (x : Nat → F) (j p : Nat) : F := dft (2 ^ j) (w ^ (2 ^ (k - j))) (fun t => x (rvm (k - j) (p / 2 ^ j) + 2 ^ (k - j) * t)) (p % 2 ^ j)
section
variable {R : Nat} [NeZero R]
theorem Sm_quarters (h : Nat) (f : Nat → Fin R) : Sm (4 * h) f = Sm h (fun i => f i + f (i + h) + f (i + 2 * h) + f (i + 3 * h)) := by
  rw [show 4 * h = h + h + h + h by omega, Sm_split, Sm_split, Sm_split, Sm_add, Sm_add, Sm_add]
  congr 1
  · congr 1
    · congr 1
      exact Sm_congr (fun i _ => by rw [Nat.add_comm])
    · exact Sm_congr (fun i _ => by congr 1; omega)
  · exact Sm_congr (fun i _ => by congr 1; omega)
theorem q_cross (a b c d u : Fin R) (hu : u * u = -1) :
    (a + c) + (b + d) = a + b * u ^ (1 * 0) + c * u ^ (2 * 0) + d * u ^ (3 * 0) ∧ (a - c) + u * (b - d) = a + b * u ^ (1 * 1) + c * u ^ (2 * 1) + d * u ^ (3 * 1) ∧
    (a + c) - (b + d) = a + b * u ^ (1 * 2) + c * u ^ (2 * 2) + d * u ^ (3 * 2) ∧ (a - c) - u * (b - d) = a + b * u ^ (1 * 3) + c * u ^ (2 * 3) + d * u ^ (3 * 3) := by
  simp only [Nat.mul_zero, Nat.mul_one, Nat.one_mul]
  have e2 : u ^ 2 = -1 := by rw [← hu]; exact k2 u
  have e3 : u ^ 3 = - u := by rw [show 3 = 2 + 1 from rfl, pow_add', e2]; exact k3 u
  have e4 : u ^ 4 = 1 := by rw [show 4 = 2 + 2 from rfl, pow_add', e2]; exact k4
  have e6 : u ^ 6 = -1 := by rw [show 6 = 4 + 2 from rfl, pow_add', e2, e4]; exact k6
  have e9 : u ^ 9 = u := by rw [show 9 = 4 + 4 + 1 from rfl, pow_add', pow_add', e4]; exact k9 u
  simp only [show 2 * 2 = 4 from rfl, show 3 * 2 = 6 from rfl, show 2 * 3 = 6 from rfl, show 3 * 3 = 9 from rfl, e2, e3, e4, e6, e9]
  exact ⟨z0 a b c d u, z1 a b c d u, z2 a b c d, z3 a b c d u⟩
where
  k2 (u : Fin R) : u ^ 2 = u * u := by grind
  k3 (u : Fin R) : -1 * u ^ 1 = - u := by grind
  k4 : (-1 : Fin R) * -1 = 1 := by grind
  k6 : (1 : Fin R) * -1 = -1 := by grind
  k9 (u : Fin R) : 1 * 1 * u ^ 1 = u := by grind
  z0 (a b c d u : Fin R) : (a + c) + (b + d) = a + b * u ^ 0 + c * u ^ 0 + d * u ^ 0 := by grind
  z1 (a b c d u : Fin R) : (a - c) + u * (b - d) = a + b * u ^ 1 + c * -1 + d * -u := by grind
  z2 (a b c d : Fin R) : (a + c) - (b + d) = a + b * -1 + c * 1 + d * -1 := by grind
  z3 (a b c d u : Fin R) : (a - c) - u * (b - d) = a + b * -u + c * -1 + d * u := by grind
/-- The row that a pass makes of one: h crossings, each at s places. -/
def qx (s h : Nat) (W u : Fin R) (x : Nat → Fin R) (p : Nat) : Fin R :=
  (x (p % s + s * (p / (4 * s))) + x (p % s + s * (p / (4 * s) + h)) * u ^ (1 * (p % (4 * s) / s)) + x (p % s + s * (p / (4 * s) + 2 * h)) * u ^ (2 * (p % (4 * s) / s)) + x (p % s + s * (p / (4 * s) + 3 * h)) * u ^ (3 * (p % (4 * s) / s))) * W ^ (p % (4 * s) / s * (p / (4 * s)))
theorem q_places {s i q t : Nat} (hq : q < s) (ht : t < 4) : (q + s * 4 * i + t * s) / (4 * s) = i ∧ (q + s * 4 * i + t * s) % s = q ∧ (q + s * 4 * i + t * s) % (4 * s) / s = t := by
  have hs : 0 < s := by omega
  have h1 : q + t * s < 4 * s := by
    have : t * s ≤ 3 * s := Nat.mul_le_mul_right s (by omega)
    omega
  have e : q + s * 4 * i + t * s = q + t * s + 4 * s * i := by rw [Nat.mul_comm s 4]; omega
  have e2 : q + s * 4 * i + t * s = q + s * (4 * i + t) := by rw [Nat.mul_add, ← Nat.mul_assoc, Nat.mul_comm t s]; omega
  refine ⟨?_, ?_, ?_⟩
  · rw [e, Nat.add_mul_div_left _ _ (by omega), Nat.div_eq_of_lt h1]; omega
  · rw [e2, Nat.add_mul_mod_self_left, Nat.mod_eq_of_lt hq]
  · rw [e, Nat.add_mul_mod_self_left, Nat.mod_eq_of_lt h1, Nat.mul_comm t s, Nat.add_mul_div_left _ _ hs, Nat.div_eq_of_lt hq]; omega
theorem qx_at {s i q t : Nat} (h : Nat) (W u : Fin R) (x : Nat → Fin R) (hq : q < s) (ht : t < 4) :
    qx s h W u x (q + s * 4 * i + t * s) = (x (q + s * i) + x (q + s * (i + h)) * u ^ (1 * t) + x (q + s * (i + 2 * h)) * u ^ (2 * t) + x (q + s * (i + 3 * h)) * u ^ (3 * t)) * W ^ (t * i) := by
  obtain ⟨e1, e2, e3⟩ := q_places (i := i) hq ht
  unfold qx
  rw [e1, e2, e3]
/-- What a pass keeps: the sums. -/
theorem qx_sum {s h : Nat} (W u : Fin R) (hW : W ^ h = u) (hu : u ^ 4 = 1) (x : Nat → Fin R) {q t : Nat} (hq : q < s) (ht : t < 4) (p : Nat) :
    Sm (4 * h) (fun m => x (q + s * m) * W ^ (m * (t + 4 * p))) = Sm h (fun i => qx s h W u x (q + s * t + 4 * s * i) * (W ^ 4) ^ (i * p)) := by
  rw [Sm_quarters]
  refine Sm_congr (fun i _ => ?_)
  rw [show q + s * t + 4 * s * i = q + s * 4 * i + t * s by rw [Nat.mul_comm s 4, Nat.mul_comm s t]; omega, qx_at h W u x hq ht]
  have w : ∀ c : Nat, W ^ ((i + c * h) * (t + 4 * p)) = W ^ (t * i) * (W ^ 4) ^ (i * p) * u ^ (c * t) := fun c => by
    rw [show (i + c * h) * (t + 4 * p) = (t * i + 4 * (i * p)) + h * (c * t) + h * 4 * (c * p) by grind, pow_add', pow_add', pow_add', pow_mul' W 4 (i * p), pow_mul' W h (c * t), pow_mul' W (h * 4) (c * p), pow_mul' W h 4, hW, hu, one_pow']
    exact k1 _
  have w0 := w 0
  have w1 := w 1
  have w2 := w 2
  have w3 := w 3
  rw [Nat.zero_mul, Nat.add_zero, Nat.zero_mul] at w0
  rw [Nat.one_mul] at w1
  rw [w0, w1, w2, w3]
  exact k2 _ _ _ _ _ _ _ _ _
where
  k1 (a : Fin R) : a * 1 = a := by grind
  k2 (a b c d p q u1 u2 u3 : Fin R) : a * (p * q * u1 ^ 0) + b * (p * q * u1) + c * (p * q * u2) + d * (p * q * u3) = (a + b * u1 + c * u2 + d * u3) * p * q := by grind
/-- The row behind j passes. -/
def qv (k : Nat) (w u : Fin R) (x : Nat → Fin R) : Nat → Nat → Fin R
  | 0 => x
  | j + 1 => qx (4 ^ j) (2 ^ (k - 2 * j) / 4) (w ^ 4 ^ j) u (qv k w u x j)
theorem two_quarter {k j : Nat} (h : 2 * (j + 1) ≤ k) : 2 ^ (k - 2 * j) = 4 * 2 ^ (k - 2 * (j + 1)) := by
  rw [show k - 2 * j = k - 2 * (j + 1) + 1 + 1 by omega, Nat.pow_succ, Nat.pow_succ]; omega
theorem four_pow (j : Nat) : 4 ^ j = 2 ^ (2 * j) := by rw [Nat.pow_mul]
theorem qv_sum {k : Nat} (w u : Fin R) (hw : w ^ 2 ^ (k - 2) = u) (hu : u ^ 4 = 1) (x : Nat → Fin R) : ∀ j, 2 * j ≤ k → ∀ q, q < 4 ^ j → ∀ p,
    Sm (2 ^ k) (fun m => x m * w ^ (m * (q + 4 ^ j * p))) = Sm (2 ^ (k - 2 * j)) (fun m => qv k w u x j (q + 4 ^ j * m) * (w ^ 4 ^ j) ^ (m * p))
  | 0, _, q, hq, p => by
    obtain rfl : q = 0 := by rw [Nat.pow_zero] at hq; omega
    refine Sm_congr (fun m _ => ?_)
    show x m * w ^ (m * (0 + 1 * p)) = x (0 + 1 * m) * (w ^ 1) ^ (m * p)
    rw [Nat.zero_add, Nat.zero_add, Nat.one_mul, Nat.one_mul, k1 w]
  | j + 1, hj, q, hq, p => by
    have hs : 0 < 4 ^ j := Nat.pow_pos (by omega)
    have hq4 : q < 4 * 4 ^ j := by rw [Nat.pow_succ] at hq; omega
    have hq1 : q % 4 ^ j < 4 ^ j := Nat.mod_lt _ hs
    have ht : q / 4 ^ j < 4 := by rw [Nat.div_lt_iff_lt_mul hs]; omega
    have hdm := Nat.mod_add_div q (4 ^ j)
    have hw4 : (w ^ 4 ^ j) ^ (2 ^ (k - 2 * (j + 1))) = u := by
      rw [← hw, ← pow_mul', four_pow, ← Nat.pow_add]; congr 2; omega
    have ih := qv_sum w u hw hu x j (by omega) (q % 4 ^ j) hq1 (q / 4 ^ j + 4 * p)
    have e1 : q % 4 ^ j + 4 ^ j * (q / 4 ^ j + 4 * p) = q + 4 ^ (j + 1) * p := by
      rw [Nat.mul_add, ← Nat.add_assoc, hdm, ← Nat.mul_assoc, Nat.pow_succ]
    rw [e1] at ih
    rw [ih, two_quarter hj, qx_sum (w ^ 4 ^ j) u hw4 hu (qv k w u x j) hq1 ht p]
    refine Sm_congr (fun i _ => ?_)
    have e2 : qv k w u x (j + 1) = qx (4 ^ j) (2 ^ (k - 2 * (j + 1))) (w ^ 4 ^ j) u (qv k w u x j) := by
      show qx (4 ^ j) (2 ^ (k - 2 * j) / 4) (w ^ 4 ^ j) u (qv k w u x j) = _
      rw [two_quarter hj, Nat.mul_div_cancel_left _ (by omega)]
    rw [e2, hdm, Nat.pow_succ, Nat.mul_comm (4 ^ j) 4, ← pow_mul' w (4 ^ j) 4, Nat.mul_comm (4 ^ j) 4]
where k1 (w : Fin R) : w ^ 1 = w := by grind
end
/-- A pass's target while the pass is at crossing i and place q. -/
def q4 {α : Type} (s : Nat) (g d : Nat → α) (i q p : Nat) : α := if p / (4 * s) < i ∨ (p / (4 * s) = i ∧ p % s < q) then g p else d p
theorem q4_zero {α : Type} (s : Nat) (g d : Nat → α) (p : Nat) : q4 s g d 0 0 p = d p := by
  unfold q4; rw [if_neg (fun h => by rcases h with h | ⟨_, h⟩ <;> exact Nat.not_lt_zero _ h)]
theorem q4_next {α : Type} {s : Nat} (hs : 0 < s) (g d : Nat → α) (i p : Nat) : q4 s g d i s p = q4 s g d (i + 1) 0 p := by
  unfold q4
  have := Nat.mod_lt p hs
  generalize p / (4 * s) = z
  by_cases h : z < i + 1
  · rw [if_pos (by omega), if_pos (by omega)]
  · rw [if_neg (by omega), if_neg (by omega)]
theorem q4_end {α : Type} {s h p : Nat} (hs : 0 < s) (g d : Nat → α) (hp : p < 4 * h * s) : q4 s g d h 0 p = g p := by
  unfold q4
  rw [if_pos (.inl ((Nat.div_lt_iff_lt_mul (by omega)).2 (by rw [show h * (4 * s) = 4 * h * s by rw [← Nat.mul_assoc, Nat.mul_comm h 4]]; exact hp)))]
theorem q4_of {s i q p : Nat} (hs : 0 < s) (h1 : p / (4 * s) = i) (h2 : p % s = q) : ∃ t, t < 4 ∧ p = q + s * 4 * i + t * s := by
  refine ⟨p % (4 * s) / s, ?_, ?_⟩
  · rw [Nat.div_lt_iff_lt_mul hs]; exact Nat.mod_lt _ (by omega)
  · have e1 := Nat.mod_add_div p (4 * s)
    have e3 : p % (4 * s) % s = p % s := Nat.mod_mod_of_dvd p ⟨4, Nat.mul_comm 4 s⟩
    have e2 := Nat.mod_add_div (p % (4 * s)) s
    rw [e3] at e2
    rw [h1] at e1
    rw [h2] at e2
    rw [Nat.mul_comm (p % (4 * s) / s) s, Nat.mul_comm s 4]
    omega
/-- One crossing laid. -/
theorem q4_step {N s i q : Nat} (hq : q < s) (g d : Nat → F) :
    ((((tab N (q4 s g d i q)).set (q + s * 4 * i) (un (g (q + s * 4 * i)))).set (q + s * 4 * i + s) (un (g (q + s * 4 * i + s)))).set (q + s * 4 * i + 2 * s) (un (g (q + s * 4 * i + 2 * s)))).set (q + s * 4 * i + 3 * s) (un (g (q + s * 4 * i + 3 * s))) = tab N (q4 s g d i (q + 1)) := by
  rw [tab_set, tab_set, tab_set, tab_set]
  have p0 := q_places (i := i) (t := 0) hq (by omega)
  have p1 := q_places (i := i) (t := 1) hq (by omega)
  have p2 := q_places (i := i) (t := 2) hq (by omega)
  have p3 := q_places (i := i) (t := 3) hq (by omega)
  rw [Nat.zero_mul, Nat.add_zero] at p0
  rw [Nat.one_mul] at p1
  refine tab_congr (fun p _ => ?_)
  by_cases c3 : p = q + s * 4 * i + 3 * s
  · rw [if_pos c3, c3]; unfold q4; rw [if_pos (.inr ⟨p3.1, by omega⟩)]
  rw [if_neg c3]
  by_cases c2 : p = q + s * 4 * i + 2 * s
  · rw [if_pos c2, c2]; unfold q4; rw [if_pos (.inr ⟨p2.1, by omega⟩)]
  rw [if_neg c2]
  by_cases c1 : p = q + s * 4 * i + s
  · rw [if_pos c1, c1]; unfold q4; rw [if_pos (.inr ⟨p1.1, by omega⟩)]
  rw [if_neg c1]
  by_cases c0 : p = q + s * 4 * i
  · rw [if_pos c0, c0]; unfold q4; rw [if_pos (.inr ⟨p0.1, by omega⟩)]
  rw [if_neg c0]
  have no : ¬ (p / (4 * s) = i ∧ p % s = q) := fun ⟨h1, h2⟩ => by
    obtain ⟨t, ht, e⟩ := q4_of (by omega) h1 h2
    have : t = 0 ∨ t = 1 ∨ t = 2 ∨ t = 3 := by omega
    rcases this with rfl | rfl | rfl | rfl
    · exact c0 (by omega)
    · exact c1 (by omega)
    · exact c2 (by omega)
    · exact c3 (by omega)
  unfold q4
  by_cases h : p / (4 * s) < i ∨ (p / (4 * s) = i ∧ p % s < q)
  · rw [if_pos h, if_pos (by omega)]
  · rw [if_neg h, if_neg (by omega)]
theorem dr_two_sq {d : Int} (hd : d = 0 ∨ d = 1) : dr 2 d * dr 2 d = -1 := by
  have h1 : dr 2 0 * dr 2 0 = -1 := by rw [dr_fwd, rt_sq (by omega), rt_one]
  rcases hd with rfl | rfl
  · exact h1
  · have h2 := dr_other 2 (d := 0) (.inl rfl)
    exact k1 _ _ h1 h2
where k1 {R : Nat} [NeZero R] (x y : Fin R) (h1 : x * x = -1) (h2 : x * y = 1) : y * y = -1 := by grind
theorem dr_half4 {k : Nat} (hk : k ≤ 32) (h0 : 0 < k) {d : Int} (hd : d = 0 ∨ d = 1) : dr k d ^ (2 ^ (k - 1)) = -1 := by
  obtain ⟨m, rfl⟩ : ∃ m, k = m + 1 := ⟨k - 1, by omega⟩
  have h1 : dr (m + 1) 0 ^ (2 ^ m) = -1 := by rw [dr_fwd]; exact rt_half (by omega)
  rcases hd with rfl | rfl
  · exact h1
  · have h2 := one_mul_eq (dr_other (m + 1) (.inl rfl)) (2 ^ m)
    rw [h1] at h2
    exact hk2 _ h2
where
  hk2 {R : Nat} [NeZero R] (x : Fin R) (h : -1 * x = 1) : x = -1 := by grind
theorem dr_drop {k : Nat} (hk : k ≤ 32) (h2 : 2 ≤ k) {d : Int} (hd : d = 0 ∨ d = 1) : dr k d ^ (2 ^ (k - 2)) = dr 2 d := by
  have h1 : dr k 0 ^ (2 ^ (k - 2)) = dr 2 0 := by
    rw [dr_fwd, dr_fwd]
    have := rt_pow_two (k := 2) (j := k - 2) (by omega)
    rw [show 2 + (k - 2) = k by omega] at this
    exact this
  rcases hd with rfl | rfl
  · exact h1
  · have e1 := one_mul_eq (dr_other k (d := 0) (.inl rfl)) (2 ^ (k - 2))
    have e2 := dr_other 2 (d := 0) (.inl rfl)
    rw [h1] at e1
    exact k1 _ _ _ e1 e2
where k1 {R : Nat} [NeZero R] (x y z : Fin R) (h1 : x * y = 1) (h2 : x * z = 1) : y = z := by grind
theorem u4_of {u : F} (hu : u * u = -1) : u ^ 4 = 1 := k1 u hu
where k1 {R : Nat} [NeZero R] (u : Fin R) (hu : u * u = -1) : u ^ 4 = 1 := by grind
section
variable {R : Nat} [NeZero R]
/-- The sum of products around a row of n places: what goes over the end comes in again, s times. -/
def wrp (n : Nat) (s : Fin R) (f g : Nat → Fin R) (j : Nat) : Fin R := Sm n (fun i => if i ≤ j then f i * g (j - i) else s * (f i * g (j + n - i)))
theorem wrp_congr {n : Nat} {s : Fin R} {f f' g g' : Nat → Fin R} {j : Nat} (hj : j < n) (h : ∀ i, i < n → f i = f' i) (h2 : ∀ i, i < n → g i = g' i) : wrp n s f g j = wrp n s f' g' j := by
  unfold wrp
  refine Sm_congr (fun i hi => ?_)
  by_cases c : i ≤ j
  · rw [if_pos c, if_pos c, h i hi, h2 (j - i) (by omega)]
  · rw [if_neg c, if_neg c, h i hi, h2 (j + n - i) (by omega)]
theorem wrp_fold {n j : Nat} (hj : j < n) (s : Fin R) {f g : Nat → Fin R} (hf : ∀ i, n ≤ i → f i = 0) (hg : ∀ i, n ≤ i → g i = 0) : wrp n s f g j = cvl f g j + s * cvl f g (j + n) := by
  have e1 : cvl f g j = Sm n (fun i => if i ≤ j then f i * g (j - i) else 0) := by
    rw [Sm_ext (a := j + 1) (b := n) (by omega) (fun i h1 _ => if_neg (by omega))]
    exact Sm_congr (fun i hi => (if_pos (by omega)).symm)
  have e2 : cvl f g (j + n) = Sm n (fun i => if i ≤ j then 0 else f i * g (j + n - i)) := by
    unfold cvl
    rw [Sm_ext (a := n) (b := j + n + 1) (by omega) (fun i h1 _ => by rw [hf i h1]; exact k0 _)]
    refine Sm_congr (fun i hi => ?_)
    by_cases c : i ≤ j
    · rw [if_pos c, hg _ (by omega)]; exact k1 _
    · rw [if_neg c]
  rw [e1, e2, ← Sm_mul, ← Sm_add]
  refine Sm_congr (fun i hi => ?_)
  by_cases c : i ≤ j
  · rw [if_pos c, if_pos c, if_pos c]; exact k2 _ _
  · rw [if_neg c, if_neg c, if_neg c]; exact k3 _
where
  k0 (x : Fin R) : 0 * x = 0 := by grind
  k1 (x : Fin R) : x * 0 = 0 := by grind
  k2 (x s : Fin R) : x = x + s * 0 := by grind
  k3 (x : Fin R) : x = 0 + x := by grind
theorem ev_wrp {n : Nat} {f g : Nat → Fin R} (hf : ∀ i, n ≤ i → f i = 0) (hg : ∀ i, n ≤ i → g i = 0) {x : Fin R} (hx : x ^ n = 1) : ev n (wrp n 1 f g) x = ev n f x * ev n g x := by
  rw [← ev_mul hf hg]
  have e : ev (n + n) (cvl f g) x = ev n (cvl f g) x + Sm n (fun i => cvl f g (n + i) * x ^ (n + i)) := Sm_split n n _
  rw [e]
  unfold ev
  rw [← Sm_add]
  refine Sm_congr (fun i hi => ?_)
  rw [wrp_fold hi 1 hf hg, pow_add', hx, Nat.add_comm n i]
  exact k1 _ _ _
where
  k1 (a b c : Fin R) : (a + 1 * b) * c = a * c + b * (1 * c) := by grind
end
/-- A function, nought past so many places. -/
def cut (n : Nat) (f : Nat → F) (i : Nat) : F := if i < n then f i else 0
theorem cut_in {n i : Nat} (f : Nat → F) (h : i < n) : cut n f i = f i := if_pos h
theorem cut_out {n : Nat} (f : Nat → F) : ∀ i, n ≤ i → cut n f i = 0 := fun i h => if_neg (by omega)
theorem dr_pow_full {k : Nat} (h : k ≤ 32) (d : Int) (j : Nat) : (dr k d ^ j) ^ (2 ^ k) = 1 := by
  rw [← pow_mul', Nat.mul_comm, pow_mul', dr_full h, one_pow']
theorem tf_fwd (k : Nat) (f : Nat → F) (j : Nat) : tf k 0 f j = dft (2 ^ k) (dr k 0) f j := if_neg (by omega)
/-- The transform of a sum of products around the row is the product of the transforms. -/
theorem tf_wrp {k : Nat} (h : k ≤ 32) (f g : Nat → F) (j : Nat) : tf k 0 (wrp (2 ^ k) 1 f g) j = tf k 0 f j * tf k 0 g j := by
  have e : tf k 0 (wrp (2 ^ k) 1 f g) j = tf k 0 (wrp (2 ^ k) 1 (cut (2 ^ k) f) (cut (2 ^ k) g)) j := tf_congr (fun i hi => wrp_congr hi (fun t ht => (cut_in f ht).symm) (fun t ht => (cut_in g ht).symm)) j
  rw [e, tf_fwd, dft_ev, ev_wrp (cut_out f) (cut_out g) (dr_pow_full h 0 j), ← dft_ev, ← dft_ev, tf_fwd, tf_fwd, dft_congr (fun i hi => cut_in f hi), dft_congr (fun i hi => cut_in g hi)]
theorem wrp_tf {k : Nat} (h : k ≤ 32) (f g : Nat → F) {j : Nat} (hj : j < 2 ^ k) : tf k 1 (fun i => tf k 0 f i * tf k 0 g i) j = wrp (2 ^ k) 1 f g j := by
  have e := tf_tf h (d := 0) (.inl rfl) (wrp (2 ^ k) 1 f g) hj
  rw [show (1 : Int) - 0 = 1 by omega] at e
  rw [← e]
  exact tf_congr (fun i _ => (tf_wrp h f g i).symm) j
/-- A row is the trimmed row of a polynomial. -/
def IsRow (x : List Int) (f : Nat → F) : Prop := ∃ n, (∀ i, n ≤ i → f i = 0) ∧ x = tr n f
theorem IsRow.uniq {x y : List Int} {f : Nat → F} (hx : IsRow x f) (hy : IsRow y f) : x = y := by
  obtain ⟨n, hn, rfl⟩ := hx
  obtain ⟨m, hm, rfl⟩ := hy
  exact tr_eq (fun _ => rfl) hn hm
theorem IsRow.co {x : List Int} {f : Nat → F} (hx : IsRow x f) : co x = f := by
  obtain ⟨n, hn, rfl⟩ := hx
  exact co_trF hn
theorem IsRow.out {x : List Int} {f : Nat → F} (hx : IsRow x f) : ∀ i, x.length ≤ i → f i = 0 := fun i hi => by
  rw [← hx.co]; exact co_out hi
theorem IsRow.of {n : Nat} {f : Nat → F} (h : ∀ i, n ≤ i → f i = 0) : IsRow (tr n f) f := ⟨n, h, rfl⟩
theorem IsRow.congr {x : List Int} {f g : Nat → F} (hx : IsRow x f) (h : ∀ i, f i = g i) : IsRow x g := by
  have e : f = g := funext h
  rw [← e]; exact hx
/-- One, as a polynomial. -/
def pone : Nat → F := fun i => if i = 0 then 1 else 0
theorem pone_row : IsRow [1] pone := by
  refine ⟨1, fun i hi => if_neg (by omega), ?_⟩
  have h : tr 1 pone = tab 1 pone := by
    unfold tr
    rw [dg_unique (n := 1) (m := 1) (Nat.le_refl _) (fun i h1 h2 => by omega) (fun _ => by
      have e : pone (1 - 1) = 1 := if_pos rfl
      rw [e]; exact one_ne_zero)]
  rw [h, tab_succ, tab_nil]
  have e : pone 0 = 1 := if_pos rfl
  rw [e, un_one]; rfl
/-- What a product makes of two rows. -/
def pmul (a b : List Int) : List Int := tr (a.length + b.length) (cvl (co a) (co b))
theorem pmul_row {a b : List Int} {f g : Nat → F} (ha : IsRow a f) (hb : IsRow b g) : IsRow (pmul a b) (cvl f g) := by
  unfold pmul
  rw [ha.co, hb.co]
  exact IsRow.of (fun i hi => cvl_out ha.out hb.out (by omega))
theorem pmul_any (a b : List Int) : IsRow (pmul a b) (cvl (co a) (co b)) := IsRow.of (fun i hi => cvl_out (row_out a) (row_out b) (by omega))
theorem pmul_length (a b : List Int) : (pmul a b).length ≤ a.length + b.length := tr_len_le _ _
theorem cvl_pone (f : Nat → F) (k : Nat) : cvl f pone k = f k := by
  unfold cvl
  rw [Sm_one (j := k) (by omega)]
  · have e : pone (k - k) = 1 := if_pos (by omega)
    rw [e]; exact k1 _
  · intro i hi hne
    have e : pone (k - i) = 0 := if_neg (by omega)
    rw [e]; exact k2 _
where
  k1 {R : Nat} [NeZero R] (x : Fin R) : x * 1 = x := by grind
  k2 {R : Nat} [NeZero R] (x : Fin R) : x * 0 = 0 := by grind
theorem pone_cvl (f : Nat → F) (k : Nat) : cvl pone f k = f k := by rw [cvl_comm]; exact cvl_pone f k
theorem cvl_fun {f f' g g' : Nat → F} (h : ∀ i, f i = f' i) (h2 : ∀ i, g i = g' i) (k : Nat) : cvl f g k = cvl f' g' k := cvl_congr (fun i _ => h i) (fun i _ => h2 i)
section
variable {R : Nat} [NeZero R]
theorem cvl_first (f g : Nat → Fin R) (k : Nat) : cvl f g k = f 0 * g k + Sm k (fun i => f (i + 1) * g (k - (i + 1))) := by
  unfold cvl
  rw [Sm_first, Nat.sub_zero]
/-- What vanishes below a, times what vanishes below b, vanishes below a + b. -/
theorem cvl_low {a b : Nat} {f g : Nat → Fin R} (hf : ∀ i, i < a → f i = 0) (hg : ∀ i, i < b → g i = 0) {k : Nat} (hk : k < a + b) : cvl f g k = 0 := by
  refine Sm_zeros (fun i hi => ?_)
  rcases Nat.lt_or_ge i a with h | h
  · rw [hf i h]; exact k1 _
  · rw [hg (k - i) (by omega)]; exact k2 _
where
  k1 (x : Fin R) : 0 * x = 0 := by grind
  k2 (x : Fin R) : x * 0 = 0 := by grind
end
theorem cvl_upto {n : Nat} {f f' g g' : Nat → F} (h : ∀ i, i < n → f i = f' i) (h2 : ∀ i, i < n → g i = g' i) {k : Nat} (hk : k < n) : cvl f g k = cvl f' g' k := cvl_congr (fun i hi => h i (by omega)) (fun i hi => h2 i (by omega))
theorem newton {a m : Nat} (hm : m ≤ 2 * a) {P S U : Nat → F} (hS : ∀ i, i < a → cvl P S i = pone i) (hU : ∀ i, i < m → U i = pone i + (pone i - cvl P S i)) {k : Nat} (hk : k < m) : cvl P (cvl S U) k = pone k := by
  rw [← cvl_assoc]
  obtain ⟨E, hE⟩ : ∃ E : Nat → F, ∀ i, E i = pone i - cvl P S i := ⟨_, fun _ => rfl⟩
  have e1 : ∀ i, i < m → cvl P S i = pone i - E i := fun i _ => by rw [hE]; exact k1 _ _
  have e2 : ∀ i, i < m → U i = pone i + E i := fun i hi => by rw [hE]; exact hU i hi
  have low : ∀ i, i < a → E i = 0 := fun i hi => by rw [hE, hS i hi]; exact k2 _
  rw [cvl_upto (f' := fun i => pone i - E i) (g' := fun i => pone i + E i) e1 e2 hk, cvl_sub_left, cvl_add_right, cvl_add_right, pone_cvl, pone_cvl, cvl_pone, cvl_low low low (by omega)]
  exact k3 _ _
where
  k1 {R : Nat} [NeZero R] (x y : Fin R) : y = x - (x - y) := by grind
  k2 {R : Nat} [NeZero R] (x : Fin R) : x - x = 0 := by grind
  k3 {R : Nat} [NeZero R] (x y : Fin R) : x + y - (y + 0) = x := by grind
/-- i above two. -/
def tri : Nat → Nat
  | 0 => 0
  | i + 1 => tri i + i
def hil (w : F) (i : Nat) : F := w ^ tri i
/-- The number that digits are (any words, as digits). -/
def nv : List Int → Nat
  | [] => 0
  | d :: t => d.toNat + 65536 * nv t
def Dg (l : List Int) : Prop := ∀ d ∈ l, 0 ≤ d ∧ d < 65536
/-- A number's digits. -/
def dgs (n : Nat) : List Int := if n = 0 then [] else ((n % 65536 : Nat) : Int) :: dgs (n / 65536)
termination_by n
decreasing_by omega
theorem dgs_zero : dgs 0 = [] := by rw [dgs, if_pos rfl]
theorem dgs_pos {n : Nat} (h : n ≠ 0) : dgs n = ((n % 65536 : Nat) : Int) :: dgs (n / 65536) := by rw [dgs, if_neg h]
theorem nv_cons (d : Int) (t : List Int) : nv (d :: t) = d.toNat + 65536 * nv t := rfl
theorem Dg_nil : Dg [] := fun d h => by cases h
theorem Dg_cons {d : Int} {t : List Int} (h0 : 0 ≤ d) (h1 : d < 65536) (h : Dg t) : Dg (d :: t) := fun x hx => by
  rcases List.mem_cons.1 hx with rfl | hx
  · exact ⟨h0, h1⟩
  · exact h x hx
theorem Dg.head {d : Int} {t : List Int} (h : Dg (d :: t)) : 0 ≤ d ∧ d < 65536 := h d List.mem_cons_self
theorem Dg.tail {d : Int} {t : List Int} (h : Dg (d :: t)) : Dg t := fun x hx => h x (List.mem_cons_of_mem _ hx)
theorem Dg_dgs (n : Nat) : Dg (dgs n) := by
  induction n using Nat.strongRecOn with
  | _ n ih =>
    by_cases h : n = 0
    · rw [h, dgs_zero]; exact Dg_nil
    · rw [dgs_pos h]; exact Dg_cons (by omega) (by omega) (ih _ (by omega))
/-- Without noughts at its end. -/
def trz : List Int → List Int
  | [] => []
  | d :: t => if trz t = [] ∧ d = 0 then [] else d :: trz t
theorem trz_cons (d : Int) (t : List Int) : trz (d :: t) = if trz t = [] ∧ d = 0 then [] else d :: trz t := rfl
theorem nv_trz (l : List Int) : nv (trz l) = nv l := by
  induction l with
  | nil => rfl
  | cons d t ih =>
    rw [trz_cons]
    split
    · rename_i h
      rw [h.1] at ih
      rw [nv_cons, ← ih, h.2]; rfl
    · rw [nv_cons, nv_cons, ih]
theorem trz_nil_nv {l : List Int} (h : trz l = []) : nv l = 0 := by rw [← nv_trz, h]; rfl
theorem trz_dgs {l : List Int} (h : Dg l) : trz l = dgs (nv l) := by
  induction l with
  | nil => exact dgs_zero.symm
  | cons d t ih =>
    have hd := h.head
    have it := ih h.tail
    rw [trz_cons, nv_cons]
    by_cases c : trz t = [] ∧ d = 0
    · rw [if_pos c, trz_nil_nv c.1, c.2]; exact dgs_zero.symm
    · rw [if_neg c]
      have hn : d.toNat + 65536 * nv t ≠ 0 := fun e => by
        refine c ⟨?_, by omega⟩
        rw [it, show nv t = 0 by omega]; exact dgs_zero
      rw [dgs_pos hn, it, show (d.toNat + 65536 * nv t) % 65536 = d.toNat by omega, show (d.toNat + 65536 * nv t) / 65536 = nv t by omega, Int.toNat_of_nonneg hd.1]
theorem trz_last {l : List Int} {i : Nat} (h : (trz l).length = i + 1) : l.getD i 0 ≠ 0 := by
  induction l generalizing i with
  | nil => cases h
  | cons d t ih =>
    rw [trz_cons] at h
    by_cases c : trz t = [] ∧ d = 0
    · rw [if_pos c] at h; cases h
    · rw [if_neg c, List.length_cons] at h
      cases i with
      | zero =>
        intro e
        exact c ⟨List.length_eq_zero_iff.1 (by omega), e⟩
      | succ i => exact ih (by omega)
/-- The row is a number's digits. -/
def Nt (l : List Int) : Prop := l = dgs (nv l)
theorem Nt.Dg {l : List Int} (h : Nt l) : Dg l := by rw [h]; exact Dg_dgs _
theorem Nt.last {l : List Int} (h : Nt l) {i : Nat} (hi : i + 1 = l.length) : l.getD i 0 ≠ 0 := by
  have e : trz l = l := by rw [trz_dgs h.Dg]; exact h.symm
  exact trz_last (by rw [e]; exact hi.symm)
theorem Nt.eq {a b : List Int} (ha : Nt a) (hb : Nt b) (h : nv a = nv b) : a = b := by rw [ha, hb, h]
/-- The product of all x - z. -/
def fp : List F → Nat → F
  | [] => one
  | z :: zs => cvl (lin z) (fp zs)
theorem fp_out : ∀ (zs : List F) (i : Nat), zs.length + 1 ≤ i → fp zs i = 0
  | [], i, h => one_out h
  | z :: zs, i, h => cvl_out (n := 2) (m := zs.length + 1) (fun i hi => lin_out z hi) (fun i hi => fp_out zs i hi) (by simp only [List.length_cons] at h; omega)
theorem fp_k1 {R : Nat} [NeZero R] (z : Fin R) : 1 - 0 * z = 1 := by grind
theorem fp_top : ∀ zs : List F, fp zs zs.length = 1
  | [] => show one 0 = 1 from if_pos rfl
  | z :: zs => by
    show cvl (lin z) (fp zs) (zs.length + 1) = 1
    rw [cvl_comm, cvl_lin_succ, fp_top zs, fp_out zs _ (Nat.le_refl _)]
    exact fp_k1 z
theorem fp_append : ∀ (xs ys : List F) (k : Nat), fp (xs ++ ys) k = cvl (fp xs) (fp ys) k
  | [], ys, k => (cvl_one_left (fp ys) k).symm
  | z :: xs, ys, k => by
    have h : fp (xs ++ ys) = cvl (fp xs) (fp ys) := funext (fp_append xs ys)
    show cvl (lin z) (fp (xs ++ ys)) k = cvl (cvl (lin z) (fp xs)) (fp ys) k
    rw [h, cvl_assoc]
theorem fp_single (z : F) : fp [z] = lin z := funext (fun k => cvl_one (lin z) k)
/-- The value at a place. -/
def fe (zs : List F) (x : F) : F := ev (zs.length + 1) (fp zs) x
theorem fe_nil (x : F) : fe [] x = 1 := ev_one _ _ (Nat.le_refl _)
theorem fe_cons (z : F) (zs : List F) (x : F) : fe (z :: zs) x = (x - z) * fe zs x := by
  have h := ev_mul (n := 2) (m := zs.length + 1) (fun i hi => lin_out z hi) (fun i hi => fp_out zs i hi) x
  rw [ev_lin] at h
  have h2 : ev (2 + (zs.length + 1)) (cvl (lin z) (fp zs)) x = fe (z :: zs) x := ev_ext x (by simp only [List.length_cons]; omega) (fun i h1 _ => fp_out (z :: zs) i h1)
  rw [← h2, h]; rfl
theorem fe_zero1 {R : Nat} [NeZero R] (a b : Fin R) : (a - a) * b = 0 := by grind
theorem fe_zero2 {R : Nat} [NeZero R] (a : Fin R) : a * 0 = 0 := by grind
theorem fe_mem : ∀ {zs : List F} {a : F}, a ∈ zs → fe zs a = 0
  | [], _, h => by cases h
  | z :: zs, a, h => by
    rw [fe_cons]
    rcases List.mem_cons.1 h with h | h
    · rw [h]; exact fe_zero1 _ _
    · rw [fe_mem h]; exact fe_zero2 _
theorem fe_sub {R : Nat} [NeZero R] {a z : Fin R} (h : a - z = 0) : a = z := by grind
theorem fe_not : ∀ {zs : List F} {a : F}, a ∉ zs → fe zs a ≠ 0
  | [], a, _ => by rw [fe_nil]; exact one_ne_zero
  | z :: zs, a, h => by
    rw [fe_cons]
    rw [List.mem_cons, not_or] at h
    exact mul_ne_zero (fun e => h.1 (fe_sub e)) (fe_not h.2)
/-- The derivative's value at a place. -/
def fd (zs : List F) (x : F) : F := ev zs.length (der (fp zs)) x
theorem fp_der_out (zs : List F) : ∀ i, zs.length ≤ i → der (fp zs) i = 0 := fun i hi => der_out (n := zs.length + 1) (fun i hi => fp_out zs i hi) i (by omega)
theorem fd_append (xs ys : List F) (x : F) : fd (xs ++ ys) x = fd xs x * fe ys x + fe xs x * fd ys x := by
  have e1 : der (fp (xs ++ ys)) = fun k => cvl (der (fp xs)) (fp ys) k + cvl (fp xs) (der (fp ys)) k := by
    have h : fp (xs ++ ys) = cvl (fp xs) (fp ys) := funext (fp_append xs ys)
    rw [h]; exact funext (der_cvl (fp xs) (fp ys))
  have h1 := ev_mul (n := xs.length) (m := ys.length + 1) (fp_der_out xs) (fun i hi => fp_out ys i hi) x
  have h2 := ev_mul (n := xs.length + 1) (m := ys.length) (fun i hi => fp_out xs i hi) (fp_der_out ys) x
  have h3 : ev (xs.length + ys.length + 1) (der (fp (xs ++ ys))) x = fd (xs ++ ys) x := ev_ext x (by rw [List.length_append]; omega) (fun i h1 _ => fp_der_out (xs ++ ys) i h1)
  rw [← h3, e1, ev_add]
  rw [show xs.length + 1 + ys.length = xs.length + ys.length + 1 by omega] at h2
  rw [show xs.length + (ys.length + 1) = xs.length + ys.length + 1 by omega] at h1
  rw [h1, h2]; rfl
theorem fd_single (z x : F) : fd [z] x = 1 := by
  unfold fd
  rw [fp_single, der_lin]
  exact ev_one _ _ (Nat.le_refl _)
theorem fd_k2 {R : Nat} [NeZero R] (b c d : Fin R) : 1 * 0 + (b - c) * d = (b - c) * d := by grind
theorem fe_single (z x : F) : fe [z] x = x - z := by
  rw [fe_cons, fe_nil]; exact one_mulr _
where one_mulr {R : Nat} [NeZero R] (a : Fin R) : a * 1 = a := by grind
theorem fd_cons (z : F) (zs : List F) (x : F) : fd (z :: zs) x = 1 * fe zs x + (x - z) * fd zs x := by
  have h := fd_append [z] zs x
  rw [fd_single, fe_single] at h
  exact h
theorem fd_k3 {R : Nat} [NeZero R] (a b c : Fin R) : 1 * a + (b - b) * c = a := by grind
theorem fd_ne : ∀ {zs : List F} {a : F}, zs.Nodup → a ∈ zs → fd zs a ≠ 0
  | [], _, _, h => by cases h
  | z :: zs, a, hd, h => by
    rw [List.nodup_cons] at hd
    rw [fd_cons]
    by_cases c : a = z
    · subst c
      rw [fd_k3]
      exact fe_not hd.1
    · have hm : a ∈ zs := by
        rcases List.mem_cons.1 h with h | h
        · exact absurd h c
        · exact h
      rw [fe_mem hm, fd_k2]
      exact mul_ne_zero (fun e => c (fe_sub e)) (fd_ne hd.2 hm)
theorem fd_dup : ∀ {zs : List F}, ¬ zs.Nodup → ∃ a ∈ zs, fd zs a = 0
  | [], h => absurd List.nodup_nil h
  | z :: zs, h => by
    by_cases hm : z ∈ zs
    · refine ⟨z, List.mem_cons_self, ?_⟩
      rw [fd_cons, fd_k3, fe_mem hm]
    · have h2 : ¬ zs.Nodup := fun e => h (List.nodup_cons.2 ⟨hm, e⟩)
      obtain ⟨a, ha, e⟩ := fd_dup h2
      refine ⟨a, List.mem_cons_of_mem _ ha, ?_⟩
      rw [fd_cons, fe_mem ha, e]
      exact fd_k4 _
where fd_k4 {R : Nat} [NeZero R] (b : Fin R) : 1 * 0 + b * 0 = 0 := by grind
/-- The row of a polynomial by its roots. -/
def nrow (zs : List F) : List Int := tab (zs.length + 1) (fp zs)
theorem nrow_length (zs : List F) : (nrow zs).length = zs.length + 1 := tab_length _ _
theorem nrow_row (zs : List F) : IsRow (nrow zs) (fp zs) := by
  refine ⟨zs.length + 1, fun i hi => fp_out zs i hi, ?_⟩
  unfold nrow tr
  rw [dg_unique (n := zs.length + 1) (m := zs.length + 1) (Nat.le_refl _) (fun i h1 h2 => by omega) (fun _ => by
    rw [Nat.add_sub_cancel, fp_top]; exact one_ne_zero)]
theorem nrow_co (zs : List F) : co (nrow zs) = fp zs := (nrow_row zs).co
/-- A row's value at a place. -/
def rv (x : List Int) (a : F) : F := ev x.length (co x) a
theorem nrow_rv (zs : List F) (a : F) : rv (nrow zs) a = fe zs a := by unfold rv fe; rw [nrow_co, nrow_length]
theorem rv_of {x : List Int} {f : Nat → F} (h : IsRow x f) {n : Nat} (hn : ∀ i, n ≤ i → f i = 0) (a : F) : ev n f a = rv x a := by
  unfold rv
  rw [h.co]
  rcases Nat.le_total n x.length with c | c
  · exact (ev_ext a c (fun i h1 _ => hn i h1)).symm
  · exact ev_ext a c (fun i h1 _ => h.out i h1)
theorem nrow_two (xs ys : List F) : pmul (nrow xs) (nrow ys) = nrow (xs ++ ys) := by
  have h := pmul_any (nrow xs) (nrow ys)
  rw [nrow_co, nrow_co] at h
  exact h.uniq ((nrow_row (xs ++ ys)).congr (fp_append xs ys))
theorem rv_pmul (x y : List Int) (a : F) : rv (pmul x y) a = rv x a * rv y a := by
  rw [← rv_of (pmul_any x y) (n := x.length + y.length) (fun i hi => cvl_out (row_out x) (row_out y) (by omega))]
  exact ev_mul (row_out x) (row_out y) a
theorem refmul_sum (f g : Nat → F) {n : Nat} (hf : ∀ i, n ≤ i → f i = 0) (j : Nat) : Sm n (fun i => if i ≤ j then f i * g (j - i) else 0) = cvl f g j := by
  unfold cvl
  by_cases h : n ≤ j + 1
  · rw [Sm_ext (f := fun i => f i * g (j - i)) h (fun i h1 h2 => by rw [hf i h1]; exact zm _)]
    exact Sm_congr (fun i hi => if_pos (by omega))
  · rw [Sm_ext (f := fun i => if i ≤ j then f i * g (j - i) else 0) (show j + 1 ≤ n by omega) (fun i h1 h2 => if_neg (by omega))]
    exact Sm_congr (fun i hi => if_pos (by omega))
where zm (a : F) : 0 * a = 0 := by grind
end Go.Proofs.Ytkgakohgbbapaaa.M
