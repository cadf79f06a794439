/- The field of P = 2^64 - 2^32 + 1 elements: numbers as its elements and back; 7 generates it; each element but 0 to the power of P - 1 is 1. -/
namespace Go.Proofs.YtnmjomcpkckihaaDoor.M
set_option autoImplicit false
set_option linter.unusedVariables false
set_option linter.unusedSimpArgs false

def PP : Nat := 18446744069414584321
theorem PP_eq : PP = 18446744069414584321 := rfl
instance instNZ : NeZero PP := ⟨by rw [PP_eq]; omega⟩
abbrev F := Fin PP

/-- A whole number as an element; an element as a number. -/
def cv (a : Int) : F := ⟨(a % 18446744069414584321).toNat, by rw [PP_eq]; omega⟩
def un (x : F) : Int := (x.val : Int)

theorem un_lo (x : F) : 0 ≤ un x := Int.natCast_nonneg _
theorem un_hi (x : F) : un x < 18446744069414584321 := by
  have h := x.isLt
  have e := PP_eq
  unfold un; omega
theorem un_inj {x y : F} (h : un x = un y) : x = y := Fin.ext (by unfold un at h; omega)
theorem un_inj_iff {x y : F} : un x = un y ↔ x = y := ⟨un_inj, fun h => by rw [h]⟩
theorem un_cv (a : Int) : un (cv a) = a % 18446744069414584321 := by
  unfold un cv; simp only; omega
theorem un_cv_of (a : Int) (h0 : 0 ≤ a) (h1 : a < 18446744069414584321) : un (cv a) = a := by rw [un_cv]; omega
theorem cv_un (x : F) : cv (un x) = x := un_inj (by rw [un_cv]; have := un_lo x; have := un_hi x; omega)
theorem un_add (x y : F) : un (x + y) = (un x + un y) % 18446744069414584321 := by
  have h : (x + y).val = (x.val + y.val) % 18446744069414584321 := Fin.val_add x y
  unfold un; omega
theorem un_mul (x y : F) : un (x * y) = (un x * un y) % 18446744069414584321 := by
  have h : (x * y).val = (x.val * y.val) % 18446744069414584321 := Fin.val_mul x y
  unfold un; rw [h, Int.natCast_emod, Int.natCast_mul]; rfl
theorem un_zero : un 0 = 0 := rfl
theorem val_one : (1 : F).val = 1 := rfl
theorem un_one : un 1 = 1 := by unfold un; rw [val_one]; rfl
theorem cv_add (a b : Int) : cv (a + b) = cv a + cv b := un_inj (by rw [un_add, un_cv, un_cv, un_cv]; omega)
theorem cv_mul (a b : Int) : cv (a * b) = cv a * cv b := un_inj (by rw [un_mul, un_cv, un_cv, un_cv, Int.mul_emod])
theorem cv_zero : cv 0 = 0 := rfl
theorem cv_one : cv 1 = 1 := un_inj (by rw [un_cv, un_one]; rfl)
theorem cv_congr {a b : Int} (h : a % 18446744069414584321 = b % 18446744069414584321) : cv a = cv b := un_inj (by rw [un_cv, un_cv, h])
theorem cv_eq_iff {a b : Int} : cv a = cv b ↔ a % 18446744069414584321 = b % 18446744069414584321 :=
  ⟨fun h => by rw [← un_cv, ← un_cv, h], cv_congr⟩
theorem cv_of_eq {a b : Int} (c : Int) (h : a = b + 18446744069414584321 * c) : cv a = cv b := cv_congr (by omega)
theorem cv_neg (a : Int) : cv (-a) = - cv a := by
  have h : cv (-a) + cv a = 0 := by rw [← cv_add, Int.add_left_neg]; rfl
  grind
theorem cv_sub (a b : Int) : cv (a - b) = cv a - cv b := by rw [Int.sub_eq_add_neg, cv_add, cv_neg]; grind
theorem cv_P : cv 18446744069414584321 = 0 := rfl
theorem cv_eq_zero {a : Int} : cv a = 0 ↔ a % 18446744069414584321 = 0 := by
  rw [← cv_zero, cv_eq_iff]; omega
theorem un_eq_zero {x : F} : un x = 0 ↔ x = 0 := by rw [← un_zero, un_inj_iff]
theorem un_sub (x y : F) : un (x - y) = (un x - un y) % 18446744069414584321 := by
  rw [← un_cv, cv_sub, cv_un, cv_un]
theorem un_neg (x : F) : un (-x) = (-un x) % 18446744069414584321 := by
  rw [← un_cv, cv_neg, cv_un]
theorem cv_nat_pow (a : Int) (n : Nat) : cv (a ^ n) = cv a ^ n := by
  induction n with
  | zero => rw [Int.pow_zero, cv_one]; grind
  | succ n ih => rw [Int.pow_succ, cv_mul, ih]; grind
theorem one_ne_zero : (1 : F) ≠ 0 := fun h => by have h2 := congrArg un h; rw [un_one, un_zero] at h2; omega

/-! Powers, fast. -/
theorem pow_add' {n : Nat} [NeZero n] (x : Fin n) (a b : Nat) : x ^ (a + b) = x ^ a * x ^ b := by
  induction b with
  | zero => grind
  | succ b ih => rw [show a + (b + 1) = (a + b) + 1 by omega]; grind
theorem pow_mul' {n : Nat} [NeZero n] (x : Fin n) (a b : Nat) : x ^ (a * b) = (x ^ a) ^ b := by
  induction b with
  | zero => grind
  | succ b ih => rw [Nat.mul_succ, pow_add', ih]; grind
theorem one_pow' {n : Nat} [NeZero n] (a : Nat) : (1 : Fin n) ^ a = 1 := by
  induction a with
  | zero => grind
  | succ a ih => grind
def fpow : Nat → Nat → Nat → Nat
  | 0, _, _ => 1
  | k + 1, b, n => if n = 0 then 1 else if n % 2 = 1 then fpow k (b * b % 18446744069414584321) (n / 2) * b % 18446744069414584321 else fpow k (b * b % 18446744069414584321) (n / 2)
theorem fpow_eq : ∀ (k b n : Nat), n < 2 ^ k → cv (fpow k b n : Nat) = cv (b : Nat) ^ n
  | 0, b, n, h => by
    obtain rfl : n = 0 := by simpa using h
    show cv 1 = _
    rw [cv_one]; grind
  | k + 1, b, n, h => by
    have hk : n / 2 < 2 ^ k := by rw [Nat.pow_succ] at h; omega
    have ih := fpow_eq k (b * b % 18446744069414584321) (n / 2) hk
    have e : cv ((b * b % 18446744069414584321 : Nat) : Int) = cv b * cv b := by
      rw [← cv_mul]; apply cv_congr; rw [Int.natCast_emod, Int.natCast_mul]; omega
    rw [e] at ih
    have e2 : (cv b * cv b) ^ (n / 2) = cv b ^ (2 * (n / 2)) := by rw [show cv (b : Int) * cv b = cv b ^ 2 by grind, ← pow_mul']
    rw [e2] at ih
    unfold fpow
    by_cases h0 : n = 0
    · rw [if_pos h0, h0]; show cv 1 = _; rw [cv_one]; grind
    · rw [if_neg h0]
      by_cases h1 : n % 2 = 1
      · rw [if_pos h1]
        have e3 : cv ((fpow k (b * b % 18446744069414584321) (n / 2) * b % 18446744069414584321 : Nat) : Int) = cv (fpow k (b * b % 18446744069414584321) (n / 2) : Nat) * cv b := by
          rw [← cv_mul]; apply cv_congr; rw [Int.natCast_emod, Int.natCast_mul]; omega
        rw [e3, ih]
        have : n = 2 * (n / 2) + 1 := by omega
        rw [show cv (b : Int) ^ (2 * (n / 2)) * cv b = cv b ^ (2 * (n / 2) + 1) by grind, ← this]
      · rw [if_neg h1, ih]
        have : n = 2 * (n / 2) := by omega
        rw [← this]
theorem cv_eq_one_nat {n : Nat} (h : n < 18446744069414584321) : cv (n : Int) = 1 ↔ n = 1 := by
  rw [← cv_one, cv_eq_iff]; omega
theorem g_full : cv 7 ^ 18446744069414584320 = 1 := by
  have h := fpow_eq 64 7 18446744069414584320 (by decide)
  rw [show (((7 : Nat) : Int)) = 7 from rfl] at h
  rw [← h, cv_eq_one_nat (by decide +kernel)]
  decide +kernel
theorem g_part (q : Nat) (hq : q ∈ [2, 3, 5, 17, 257, 65537]) : cv 7 ^ (18446744069414584320 / q) ≠ 1 := by
  intro hh
  have hlt : 18446744069414584320 / q < 2 ^ 64 := Nat.lt_of_le_of_lt (Nat.div_le_self _ _) (by decide)
  have h := fpow_eq 64 7 (18446744069414584320 / q) hlt
  rw [show (((7 : Nat) : Int)) = 7 from rfl, hh] at h
  have key : ∀ q ∈ [2, 3, 5, 17, 257, 65537], fpow 64 7 (18446744069414584320 / q) < 18446744069414584321 ∧ fpow 64 7 (18446744069414584320 / q) ≠ 1 := by decide +kernel
  have := key q hq
  exact this.2 ((cv_eq_one_nat this.1).1 h)

/-! The order of 7. -/
theorem pow_mod_one {n : Nat} [NeZero n] (x : Fin n) {a b : Nat} (ha : x ^ a = 1) (hb : x ^ b = 1) : x ^ (a % b) = 1 := by
  have e : a = b * (a / b) + a % b := (Nat.div_add_mod a b).symm
  have h2 : x ^ (b * (a / b) + a % b) = x ^ (b * (a / b)) * x ^ (a % b) := by grind
  rw [pow_mul', hb, one_pow', ← e, ha] at h2
  grind
theorem pow_gcd_one {n : Nat} [NeZero n] (x : Fin n) : ∀ (a b : Nat), x ^ a = 1 → x ^ b = 1 → x ^ (Nat.gcd a b) = 1 := by
  intro a
  induction a using Nat.strongRecOn with
  | _ a ih =>
    intro b ha hb
    by_cases h0 : a = 0
    · rw [h0, Nat.gcd_zero_left]; exact hb
    · rw [Nat.gcd_rec]
      exact ih (b % a) (Nat.mod_lt _ (by omega)) a (pow_mod_one x hb ha) ha
theorem cop_of (q : Nat) (hq : ∀ d, d ∣ q → d = 1 ∨ d = q) (m : Nat) (h : ¬ q ∣ m) : Nat.Coprime m q := by
  rcases hq (Nat.gcd m q) (Nat.gcd_dvd_right _ _) with h1 | h1
  · exact h1
  · exact absurd (h1 ▸ Nat.gcd_dvd_left m q) h
theorem prime_small (q : Nat) (hq : q ∈ [2, 3, 5, 17, 257]) : ∀ d, d ∣ q → d = 1 ∨ d = q := by
  intro d hd
  have hle : d < 258 := by
    have h0 : 0 < q := (by decide : ∀ q ∈ [2, 3, 5, 17, 257], 0 < q) q hq
    have := Nat.le_of_dvd h0 hd
    have h1 : q ≤ 257 := (by decide : ∀ q ∈ [2, 3, 5, 17, 257], q ≤ 257) q hq
    omega
  have key : ∀ d, d < 258 → ∀ q ∈ [2, 3, 5, 17, 257], q % d = 0 → d = 1 ∨ d = q := by decide +kernel
  exact key d hle q hq (Nat.mod_eq_zero_of_dvd hd)
theorem prime_65537 : ∀ d, d ∣ 65537 → d = 1 ∨ d = 65537 := by
  have key : ∀ d, d < 257 → 65537 % d = 0 → d = 1 := by decide +kernel
  intro d hd
  obtain ⟨e, he⟩ := hd
  by_cases h : d < 257
  · exact .inl (key d h (by rw [he]; exact Nat.mul_mod_right _ _))
  · by_cases h2 : e < 257
    · have := key e h2 (by rw [he]; exact Nat.mul_mod_left _ _)
      rw [this] at he; omega
    · have h3 : 257 * 257 ≤ d * e := Nat.mul_le_mul (by omega) (by omega)
      omega
theorem part_of (m : Nat) (hm : m ∣ 18446744069414584320) (h1 : m ≠ 1) : ∃ q ∈ [2, 3, 5, 17, 257, 65537], q ∣ m := by
  apply Classical.byContradiction
  intro hn
  have hno : ∀ q, q ∈ [2, 3, 5, 17, 257, 65537] → ¬ q ∣ m := fun q hq hd => hn ⟨q, hq, hd⟩
  have c2 := (cop_of 2 (prime_small 2 (by decide)) m (hno 2 (by decide))).pow_right 32
  have c3 := cop_of 3 (prime_small 3 (by decide)) m (hno 3 (by decide))
  have c5 := cop_of 5 (prime_small 5 (by decide)) m (hno 5 (by decide))
  have c17 := cop_of 17 (prime_small 17 (by decide)) m (hno 17 (by decide))
  have c257 := cop_of 257 (prime_small 257 (by decide)) m (hno 257 (by decide))
  have c6 := cop_of 65537 prime_65537 m (hno 65537 (by decide))
  have h : m ∣ 2 ^ 32 * (3 * (5 * (17 * (257 * (65537 * 1))))) := by
    rw [show 2 ^ 32 * (3 * (5 * (17 * (257 * (65537 * 1))))) = 18446744069414584320 by decide]; exact hm
  have h := c6.dvd_of_dvd_mul_left (c257.dvd_of_dvd_mul_left (c17.dvd_of_dvd_mul_left (c5.dvd_of_dvd_mul_left (c3.dvd_of_dvd_mul_left (c2.dvd_of_dvd_mul_left h)))))
  exact h1 (Nat.dvd_one.1 h)
theorem g_order (d : Nat) (h0 : 0 < d) (h1 : d < 18446744069414584320) : cv 7 ^ d ≠ 1 := by
  intro hd
  have he := pow_gcd_one (cv 7) d 18446744069414584320 hd g_full
  generalize hg : Nat.gcd d 18446744069414584320 = e at he
  have hed : e ∣ d := hg ▸ Nat.gcd_dvd_left _ _
  have hep : e ∣ 18446744069414584320 := hg ▸ Nat.gcd_dvd_right _ _
  have hle := Nat.le_of_dvd h0 hed
  obtain ⟨m, hm⟩ := hep
  have hm1 : m ≠ 1 := fun h => by rw [h] at hm; omega
  obtain ⟨q, hq, c, hc⟩ := part_of m ⟨e, by rw [hm]; exact Nat.mul_comm _ _⟩ hm1
  have hq0 : 0 < q := (by decide : ∀ q ∈ [2, 3, 5, 17, 257, 65537], 0 < q) q hq
  have hdiv : 18446744069414584320 / q = e * c := by
    rw [hm, hc, show e * (q * c) = q * (e * c) by rw [Nat.mul_left_comm]]
    exact Nat.mul_div_cancel_left _ hq0
  refine g_part q hq ?_
  rw [hdiv, pow_mul', he, one_pow']

/-! Each element but 0 is a power of 7. -/
theorem pigeon (n : Nat) : ∀ f : Nat → Nat, (∀ i, i < n → f i < n) → (∀ i j, i < n → j < n → f i = f j → i = j) → ∀ y, y < n → ∃ i, i < n ∧ f i = y := by
  induction n with
  | zero => intro f _ _ y hy; omega
  | succ n ih =>
    intro f hf hinj y hy
    have hm := hf n (by omega)
    have hg1 : ∀ i, i < n → (if f i = n then f n else f i) < n := by
      intro i hi
      have := hf i (by omega)
      split
      · rename_i h
        have : f n ≠ n := fun h2 => by have := hinj i n (by omega) (by omega) (by omega); omega
        omega
      · omega
    have hg2 : ∀ i j, i < n → j < n → (if f i = n then f n else f i) = (if f j = n then f n else f j) → i = j := by
      intro i j hi hj h
      split at h <;> split at h
      · exact hinj i j (by omega) (by omega) (by omega)
      · have := hinj n j (by omega) (by omega) h; omega
      · have := hinj i n (by omega) (by omega) h; omega
      · exact hinj i j (by omega) (by omega) h
    have hs := ih _ hg1 hg2
    by_cases hyn : y = f n
    · exact ⟨n, by omega, hyn.symm⟩
    · by_cases hy2 : y < n
      · obtain ⟨i, hi, h⟩ := hs y hy2
        split at h
        · omega
        · exact ⟨i, by omega, h⟩
      · obtain ⟨i, hi, h⟩ := hs (f n) (by omega)
        split at h
        · exact ⟨i, by omega, by omega⟩
        · have := hinj i n (by omega) (by omega) h; omega
theorem g_inv : cv 7 * cv 7 ^ 18446744069414584319 = 1 := by
  have h := g_full
  have e : cv 7 ^ (18446744069414584319 + 1) = cv 7 * cv 7 ^ 18446744069414584319 := by grind
  rw [← e]; exact h
theorem unit_pow {n : Nat} [NeZero n] {x y : Fin n} (h : x * y = 1) (k : Nat) : x ^ k * y ^ k = 1 := by
  induction k with
  | zero => grind
  | succ k ih => grind
theorem g_pow_ne (i : Nat) : cv 7 ^ i ≠ 0 := by
  intro h
  have := unit_pow g_inv i
  rw [h] at this
  exact one_ne_zero (by grind)
theorem g_inj {i j : Nat} (hi : i < 18446744069414584320) (hj : j < 18446744069414584320) (h : cv 7 ^ i = cv 7 ^ j) : i = j := by
  have key : ∀ i j : Nat, i < j → j < 18446744069414584320 → cv 7 ^ i = cv 7 ^ j → False := by
    intro i j hij hj h
    refine g_order (j - i) (by omega) (by omega) ?_
    have e : cv 7 ^ j = cv 7 ^ i * cv 7 ^ (j - i) := by
      rw [show j = i + (j - i) by omega]
      generalize j - i = d
      rw [Nat.add_sub_cancel_left]
      grind
    have u := unit_pow g_inv i
    rw [← h] at e
    generalize cv 7 ^ i = x at *
    generalize (cv 7 ^ 18446744069414584319) ^ i = y at *
    generalize cv 7 ^ (j - i) = z at *
    grind
  rcases Nat.lt_trichotomy i j with h1 | h1 | h1
  · exact (key i j h1 hj h).elim
  · exact h1
  · exact (key j i h1 hi h.symm).elim
theorem val_ne {x : F} (h : x ≠ 0) : x.val ≠ 0 := fun h2 => h (Fin.ext h2)
theorem is_power (x : F) (h : x ≠ 0) : ∃ i, i < 18446744069414584320 ∧ cv 7 ^ i = x := by
  have hx := val_ne h
  have hl := x.isLt
  have e := PP_eq
  obtain ⟨i, hi, hy⟩ := pigeon 18446744069414584320 (fun i => (cv 7 ^ i).val - 1)
    (fun i _ => by have := (cv 7 ^ i).isLt; have := val_ne (g_pow_ne i); show (cv 7 ^ i).val - 1 < _; omega)
    (fun i j hi hj hh => g_inj hi hj (Fin.ext (by
      have := val_ne (g_pow_ne i); have := val_ne (g_pow_ne j)
      have hh' : (cv 7 ^ i).val - 1 = (cv 7 ^ j).val - 1 := hh
      omega))) (x.val - 1) (by omega)
  refine ⟨i, hi, Fin.ext ?_⟩
  have := val_ne (g_pow_ne i)
  have hy' : (cv 7 ^ i).val - 1 = x.val - 1 := hy
  omega
theorem fermat (x : F) (h : x ≠ 0) : x ^ 18446744069414584320 = 1 := by
  obtain ⟨i, _, rfl⟩ := is_power x h
  rw [← pow_mul', Nat.mul_comm, pow_mul', g_full, one_pow']
/-- The inverse (of 0: 0). -/
def inv (x : F) : F := x ^ 18446744069414584319
theorem mul_inv {x : F} (h : x ≠ 0) : x * inv x = 1 := by
  have e : x ^ (18446744069414584319 + 1) = x * x ^ 18446744069414584319 := by grind
  unfold inv; rw [← e]; exact fermat x h
theorem inv_mul {x : F} (h : x ≠ 0) : inv x * x = 1 := by
  have := mul_inv h
  generalize inv x = y at *
  grind
theorem mul_ne_zero {x y : F} (hx : x ≠ 0) (hy : y ≠ 0) : x * y ≠ 0 := by
  intro h
  have h1 := mul_inv hx
  have h2 := mul_inv hy
  generalize inv x = a at *
  generalize inv y = b at *
  exact one_ne_zero (by grind)
theorem mul_eq_zero {x y : F} : x * y = 0 ↔ x = 0 ∨ y = 0 := by
  constructor
  · intro h
    by_cases hx : x = 0
    · exact .inl hx
    · by_cases hy : y = 0
      · exact .inr hy
      · exact absurd h (mul_ne_zero hx hy)
  · rintro (rfl | rfl) <;> grind
theorem pow_ne_zero {x : F} (hx : x ≠ 0) (n : Nat) : x ^ n ≠ 0 := by
  intro h
  have := unit_pow (mul_inv hx) n
  rw [h] at this
  exact one_ne_zero (by grind)
theorem inv_unique {x y : F} (h : x * y = 1) : y = inv x := by
  have hx : x ≠ 0 := fun h0 => one_ne_zero (by rw [← h, h0]; grind)
  have := mul_inv hx
  generalize inv x = b at *
  grind
theorem inv_ne_zero {x : F} (h : x ≠ 0) : inv x ≠ 0 := fun h0 => one_ne_zero (by rw [← mul_inv h, h0]; grind)
theorem cancel {x y z : F} (hx : x ≠ 0) (h : x * y = x * z) : y = z := by
  have := mul_inv hx
  generalize inv x = b at *
  grind
end Go.Proofs.YtnmjomcpkckihaaDoor.M
