/- The transform by quarters: rows behind each pass; what a pass lays. -/
import Derived.Test.YtnmjomcpkckihaaDoorM11
namespace Go.Proofs.YtnmjomcpkckihaaDoor.M
set_option autoImplicit false
set_option linter.unusedVariables false
set_option linter.unusedSimpArgs false
section
variable {R : Nat} [NeZero R]
theorem Sm_quarters (h : Nat) (f : Nat → Fin R) : Sm (4 * h) f = Sm h (fun i => f i + f (i + h) + f (i + 2 * h) + f (i + 3 * h)) := by
  rw [show 4 * h = h + h + h + h by omega, Sm_split, Sm_split, Sm_split, Sm_add, Sm_add, Sm_add]
  congr 1
  · congr 1
    · congr 1
      exact Sm_congr (fun i _ => by rw [Nat.add_comm])
    · exact Sm_congr (fun i _ => by congr 1; omega)
  · exact Sm_congr (fun i _ => by congr 1; omega)
theorem q_cross (a b c d u : Fin R) (hu : u * u = -1) :
    (a + c) + (b + d) = a + b * u ^ (1 * 0) + c * u ^ (2 * 0) + d * u ^ (3 * 0) ∧ (a - c) + u * (b - d) = a + b * u ^ (1 * 1) + c * u ^ (2 * 1) + d * u ^ (3 * 1) ∧
    (a + c) - (b + d) = a + b * u ^ (1 * 2) + c * u ^ (2 * 2) + d * u ^ (3 * 2) ∧ (a - c) - u * (b - d) = a + b * u ^ (1 * 3) + c * u ^ (2 * 3) + d * u ^ (3 * 3) := by
  simp only [Nat.mul_zero, Nat.mul_one, Nat.one_mul]
  have e2 : u ^ 2 = -1 := by rw [← hu]; exact k2 u
  have e3 : u ^ 3 = - u := by rw [show 3 = 2 + 1 from rfl, pow_add', e2]; exact k3 u
  have e4 : u ^ 4 = 1 := by rw [show 4 = 2 + 2 from rfl, pow_add', e2]; exact k4
  have e6 : u ^ 6 = -1 := by rw [show 6 = 4 + 2 from rfl, pow_add', e2, e4]; exact k6
  have e9 : u ^ 9 = u := by rw [show 9 = 4 + 4 + 1 from rfl, pow_add', pow_add', e4]; exact k9 u
  simp only [show 2 * 2 = 4 from rfl, show 3 * 2 = 6 from rfl, show 2 * 3 = 6 from rfl, show 3 * 3 = 9 from rfl, e2, e3, e4, e6, e9]
  exact ⟨z0 a b c d u, z1 a b c d u, z2 a b c d, z3 a b c d u⟩
where
  k2 (u : Fin R) : u ^ 2 = u * u := by grind
  k3 (u : Fin R) : -1 * u ^ 1 = - u := by grind
  k4 : (-1 : Fin R) * -1 = 1 := by grind
  k6 : (1 : Fin R) * -1 = -1 := by grind
  k9 (u : Fin R) : 1 * 1 * u ^ 1 = u := by grind
  z0 (a b c d u : Fin R) : (a + c) + (b + d) = a + b * u ^ 0 + c * u ^ 0 + d * u ^ 0 := by grind
  z1 (a b c d u : Fin R) : (a - c) + u * (b - d) = a + b * u ^ 1 + c * -1 + d * -u := by grind
  z2 (a b c d : Fin R) : (a + c) - (b + d) = a + b * -1 + c * 1 + d * -1 := by grind
  z3 (a b c d u : Fin R) : (a - c) - u * (b - d) = a + b * -u + c * -1 + d * u := by grind
/-- The row that a pass makes of one: h crossings, each at s places. -/
def qx (s h : Nat) (W u : Fin R) (x : Nat → Fin R) (p : Nat) : Fin R :=
  (x (p % s + s * (p / (4 * s))) + x (p % s + s * (p / (4 * s) + h)) * u ^ (1 * (p % (4 * s) / s)) + x (p % s + s * (p / (4 * s) + 2 * h)) * u ^ (2 * (p % (4 * s) / s)) + x (p % s + s * (p / (4 * s) + 3 * h)) * u ^ (3 * (p % (4 * s) / s))) * W ^ (p % (4 * s) / s * (p / (4 * s)))
theorem q_places {s i q t : Nat} (hq : q < s) (ht : t < 4) : (q + s * 4 * i + t * s) / (4 * s) = i ∧ (q + s * 4 * i + t * s) % s = q ∧ (q + s * 4 * i + t * s) % (4 * s) / s = t := by
  have hs : 0 < s := by omega
  have h1 : q + t * s < 4 * s := by
    have : t * s ≤ 3 * s := Nat.mul_le_mul_right s (by omega)
    omega
  have e : q + s * 4 * i + t * s = q + t * s + 4 * s * i := by rw [Nat.mul_comm s 4]; omega
  have e2 : q + s * 4 * i + t * s = q + s * (4 * i + t) := by rw [Nat.mul_add, ← Nat.mul_assoc, Nat.mul_comm t s]; omega
  refine ⟨?_, ?_, ?_⟩
  · rw [e, Nat.add_mul_div_left _ _ (by omega), Nat.div_eq_of_lt h1]; omega
  · rw [e2, Nat.add_mul_mod_self_left, Nat.mod_eq_of_lt hq]
  · rw [e, Nat.add_mul_mod_self_left, Nat.mod_eq_of_lt h1, Nat.mul_comm t s, Nat.add_mul_div_left _ _ hs, Nat.div_eq_of_lt hq]; omega
theorem qx_at {s i q t : Nat} (h : Nat) (W u : Fin R) (x : Nat → Fin R) (hq : q < s) (ht : t < 4) :
    qx s h W u x (q + s * 4 * i + t * s) = (x (q + s * i) + x (q + s * (i + h)) * u ^ (1 * t) + x (q + s * (i + 2 * h)) * u ^ (2 * t) + x (q + s * (i + 3 * h)) * u ^ (3 * t)) * W ^ (t * i) := by
  obtain ⟨e1, e2, e3⟩ := q_places (i := i) hq ht
  unfold qx
  rw [e1, e2, e3]
/-- What a pass keeps: the sums. -/
theorem qx_sum {s h : Nat} (W u : Fin R) (hW : W ^ h = u) (hu : u ^ 4 = 1) (x : Nat → Fin R) {q t : Nat} (hq : q < s) (ht : t < 4) (p : Nat) :
    Sm (4 * h) (fun m => x (q + s * m) * W ^ (m * (t + 4 * p))) = Sm h (fun i => qx s h W u x (q + s * t + 4 * s * i) * (W ^ 4) ^ (i * p)) := by
  rw [Sm_quarters]
  refine Sm_congr (fun i _ => ?_)
  rw [show q + s * t + 4 * s * i = q + s * 4 * i + t * s by rw [Nat.mul_comm s 4, Nat.mul_comm s t]; omega, qx_at h W u x hq ht]
  have w : ∀ c : Nat, W ^ ((i + c * h) * (t + 4 * p)) = W ^ (t * i) * (W ^ 4) ^ (i * p) * u ^ (c * t) := fun c => by
    rw [show (i + c * h) * (t + 4 * p) = (t * i + 4 * (i * p)) + h * (c * t) + h * 4 * (c * p) by grind, pow_add', pow_add', pow_add', pow_mul' W 4 (i * p), pow_mul' W h (c * t), pow_mul' W (h * 4) (c * p), pow_mul' W h 4, hW, hu, one_pow']
    exact k1 _
  have w0 := w 0
  have w1 := w 1
  have w2 := w 2
  have w3 := w 3
  rw [Nat.zero_mul, Nat.add_zero, Nat.zero_mul] at w0
  rw [Nat.one_mul] at w1
  rw [w0, w1, w2, w3]
  exact k2 _ _ _ _ _ _ _ _ _
where
  k1 (a : Fin R) : a * 1 = a := by grind
  k2 (a b c d p q u1 u2 u3 : Fin R) : a * (p * q * u1 ^ 0) + b * (p * q * u1) + c * (p * q * u2) + d * (p * q * u3) = (a + b * u1 + c * u2 + d * u3) * p * q := by grind
/-- The row behind j passes. -/
def qv (k : Nat) (w u : Fin R) (x : Nat → Fin R) : Nat → Nat → Fin R
  | 0 => x
  | j + 1 => qx (4 ^ j) (2 ^ (k - 2 * j) / 4) (w ^ 4 ^ j) u (qv k w u x j)
theorem two_quarter {k j : Nat} (h : 2 * (j + 1) ≤ k) : 2 ^ (k - 2 * j) = 4 * 2 ^ (k - 2 * (j + 1)) := by
  rw [show k - 2 * j = k - 2 * (j + 1) + 1 + 1 by omega, Nat.pow_succ, Nat.pow_succ]; omega
theorem four_pow (j : Nat) : 4 ^ j = 2 ^ (2 * j) := by rw [Nat.pow_mul]
theorem qv_sum {k : Nat} (w u : Fin R) (hw : w ^ 2 ^ (k - 2) = u) (hu : u ^ 4 = 1) (x : Nat → Fin R) : ∀ j, 2 * j ≤ k → ∀ q, q < 4 ^ j → ∀ p,
    Sm (2 ^ k) (fun m => x m * w ^ (m * (q + 4 ^ j * p))) = Sm (2 ^ (k - 2 * j)) (fun m => qv k w u x j (q + 4 ^ j * m) * (w ^ 4 ^ j) ^ (m * p))
  | 0, _, q, hq, p => by
    obtain rfl : q = 0 := by rw [Nat.pow_zero] at hq; omega
    refine Sm_congr (fun m _ => ?_)
    show x m * w ^ (m * (0 + 1 * p)) = x (0 + 1 * m) * (w ^ 1) ^ (m * p)
    rw [Nat.zero_add, Nat.zero_add, Nat.one_mul, Nat.one_mul, k1 w]
  | j + 1, hj, q, hq, p => by
    have hs : 0 < 4 ^ j := Nat.pow_pos (by omega)
    have hq4 : q < 4 * 4 ^ j := by rw [Nat.pow_succ] at hq; omega
    have hq1 : q % 4 ^ j < 4 ^ j := Nat.mod_lt _ hs
    have ht : q / 4 ^ j < 4 := by rw [Nat.div_lt_iff_lt_mul hs]; omega
    have hdm := Nat.mod_add_div q (4 ^ j)
    have hw4 : (w ^ 4 ^ j) ^ (2 ^ (k - 2 * (j + 1))) = u := by
      rw [← hw, ← pow_mul', four_pow, ← Nat.pow_add]; congr 2; omega
    have ih := qv_sum w u hw hu x j (by omega) (q % 4 ^ j) hq1 (q / 4 ^ j + 4 * p)
    have e1 : q % 4 ^ j + 4 ^ j * (q / 4 ^ j + 4 * p) = q + 4 ^ (j + 1) * p := by
      rw [Nat.mul_add, ← Nat.add_assoc, hdm, ← Nat.mul_assoc, Nat.pow_succ]
    rw [e1] at ih
    rw [ih, two_quarter hj, qx_sum (w ^ 4 ^ j) u hw4 hu (qv k w u x j) hq1 ht p]
    refine Sm_congr (fun i _ => ?_)
    have e2 : qv k w u x (j + 1) = qx (4 ^ j) (2 ^ (k - 2 * (j + 1))) (w ^ 4 ^ j) u (qv k w u x j) := by
      show qx (4 ^ j) (2 ^ (k - 2 * j) / 4) (w ^ 4 ^ j) u (qv k w u x j) = _
      rw [two_quarter hj, Nat.mul_div_cancel_left _ (by omega)]
    rw [e2, hdm, Nat.pow_succ, Nat.mul_comm (4 ^ j) 4, ← pow_mul' w (4 ^ j) 4, Nat.mul_comm (4 ^ j) 4]
where k1 (w : Fin R) : w ^ 1 = w := by grind
end
/-- A pass's target while the pass is at crossing i and place q. -/
def q4 {α : Type} (s : Nat) (g d : Nat → α) (i q p : Nat) : α := if p / (4 * s) < i ∨ (p / (4 * s) = i ∧ p % s < q) then g p else d p
theorem q4_zero {α : Type} (s : Nat) (g d : Nat → α) (p : Nat) : q4 s g d 0 0 p = d p := by
  unfold q4; rw [if_neg (fun h => by rcases h with h | ⟨_, h⟩ <;> exact Nat.not_lt_zero _ h)]
theorem q4_next {α : Type} {s : Nat} (hs : 0 < s) (g d : Nat → α) (i p : Nat) : q4 s g d i s p = q4 s g d (i + 1) 0 p := by
  unfold q4
  have := Nat.mod_lt p hs
  generalize p / (4 * s) = z
  by_cases h : z < i + 1
  · rw [if_pos (by omega), if_pos (by omega)]
  · rw [if_neg (by omega), if_neg (by omega)]
theorem q4_end {α : Type} {s h p : Nat} (hs : 0 < s) (g d : Nat → α) (hp : p < 4 * h * s) : q4 s g d h 0 p = g p := by
  unfold q4
  rw [if_pos (.inl ((Nat.div_lt_iff_lt_mul (by omega)).2 (by rw [show h * (4 * s) = 4 * h * s by rw [← Nat.mul_assoc, Nat.mul_comm h 4]]; exact hp)))]
theorem q4_of {s i q p : Nat} (hs : 0 < s) (h1 : p / (4 * s) = i) (h2 : p % s = q) : ∃ t, t < 4 ∧ p = q + s * 4 * i + t * s := by
  refine ⟨p % (4 * s) / s, ?_, ?_⟩
  · rw [Nat.div_lt_iff_lt_mul hs]; exact Nat.mod_lt _ (by omega)
  · have e1 := Nat.mod_add_div p (4 * s)
    have e3 : p % (4 * s) % s = p % s := Nat.mod_mod_of_dvd p ⟨4, Nat.mul_comm 4 s⟩
    have e2 := Nat.mod_add_div (p % (4 * s)) s
    rw [e3] at e2
    rw [h1] at e1
    rw [h2] at e2
    rw [Nat.mul_comm (p % (4 * s) / s) s, Nat.mul_comm s 4]
    omega
/-- One crossing laid. -/
theorem q4_step {N s i q : Nat} (hq : q < s) (g d : Nat → F) :
    ((((tab N (q4 s g d i q)).set (q + s * 4 * i) (un (g (q + s * 4 * i)))).set (q + s * 4 * i + s) (un (g (q + s * 4 * i + s)))).set (q + s * 4 * i + 2 * s) (un (g (q + s * 4 * i + 2 * s)))).set (q + s * 4 * i + 3 * s) (un (g (q + s * 4 * i + 3 * s))) = tab N (q4 s g d i (q + 1)) := by
  rw [tab_set, tab_set, tab_set, tab_set]
  have p0 := q_places (i := i) (t := 0) hq (by omega)
  have p1 := q_places (i := i) (t := 1) hq (by omega)
  have p2 := q_places (i := i) (t := 2) hq (by omega)
  have p3 := q_places (i := i) (t := 3) hq (by omega)
  rw [Nat.zero_mul, Nat.add_zero] at p0
  rw [Nat.one_mul] at p1
  refine tab_congr (fun p _ => ?_)
  by_cases c3 : p = q + s * 4 * i + 3 * s
  · rw [if_pos c3, c3]; unfold q4; rw [if_pos (.inr ⟨p3.1, by omega⟩)]
  rw [if_neg c3]
  by_cases c2 : p = q + s * 4 * i + 2 * s
  · rw [if_pos c2, c2]; unfold q4; rw [if_pos (.inr ⟨p2.1, by omega⟩)]
  rw [if_neg c2]
  by_cases c1 : p = q + s * 4 * i + s
  · rw [if_pos c1, c1]; unfold q4; rw [if_pos (.inr ⟨p1.1, by omega⟩)]
  rw [if_neg c1]
  by_cases c0 : p = q + s * 4 * i
  · rw [if_pos c0, c0]; unfold q4; rw [if_pos (.inr ⟨p0.1, by omega⟩)]
  rw [if_neg c0]
  have no : ¬ (p / (4 * s) = i ∧ p % s = q) := fun ⟨h1, h2⟩ => by
    obtain ⟨t, ht, e⟩ := q4_of (by omega) h1 h2
    have : t = 0 ∨ t = 1 ∨ t = 2 ∨ t = 3 := by omega
    rcases this with rfl | rfl | rfl | rfl
    · exact c0 (by omega)
    · exact c1 (by omega)
    · exact c2 (by omega)
    · exact c3 (by omega)
  unfold q4
  by_cases h : p / (4 * s) < i ∨ (p / (4 * s) = i ∧ p % s < q)
  · rw [if_pos h, if_pos (by omega)]
  · rw [if_neg h, if_neg (by omega)]
theorem dr_two_sq {d : Int} (hd : d = 0 ∨ d = 1) : dr 2 d * dr 2 d = -1 := by
  have h1 : dr 2 0 * dr 2 0 = -1 := by rw [dr_fwd, rt_sq (by omega), rt_one]
  rcases hd with rfl | rfl
  · exact h1
  · have h2 := dr_other 2 (d := 0) (.inl rfl)
    exact k1 _ _ h1 h2
where k1 {R : Nat} [NeZero R] (x y : Fin R) (h1 : x * x = -1) (h2 : x * y = 1) : y * y = -1 := by grind
theorem dr_half4 {k : Nat} (hk : k ≤ 32) (h0 : 0 < k) {d : Int} (hd : d = 0 ∨ d = 1) : dr k d ^ (2 ^ (k - 1)) = -1 := by
  obtain ⟨m, rfl⟩ : ∃ m, k = m + 1 := ⟨k - 1, by omega⟩
  have h1 : dr (m + 1) 0 ^ (2 ^ m) = -1 := by rw [dr_fwd]; exact rt_half (by omega)
  rcases hd with rfl | rfl
  · exact h1
  · have h2 := one_mul_eq (dr_other (m + 1) (.inl rfl)) (2 ^ m)
    rw [h1] at h2
    exact hk2 _ h2
where
  hk2 {R : Nat} [NeZero R] (x : Fin R) (h : -1 * x = 1) : x = -1 := by grind
theorem dr_drop {k : Nat} (hk : k ≤ 32) (h2 : 2 ≤ k) {d : Int} (hd : d = 0 ∨ d = 1) : dr k d ^ (2 ^ (k - 2)) = dr 2 d := by
  have h1 : dr k 0 ^ (2 ^ (k - 2)) = dr 2 0 := by
    rw [dr_fwd, dr_fwd]
    have := rt_pow_two (k := 2) (j := k - 2) (by omega)
    rw [show 2 + (k - 2) = k by omega] at this
    exact this
  rcases hd with rfl | rfl
  · exact h1
  · have e1 := one_mul_eq (dr_other k (d := 0) (.inl rfl)) (2 ^ (k - 2))
    have e2 := dr_other 2 (d := 0) (.inl rfl)
    rw [h1] at e1
    exact k1 _ _ _ e1 e2
where k1 {R : Nat} [NeZero R] (x y z : Fin R) (h1 : x * y = 1) (h2 : x * z = 1) : y = z := by grind
theorem u4_of {u : F} (hu : u * u = -1) : u ^ 4 = 1 := k1 u hu
where k1 {R : Nat} [NeZero R] (u : Fin R) (hu : u * u = -1) : u ^ 4 = 1 := by grind
end Go.Proofs.YtnmjomcpkckihaaDoor.M
