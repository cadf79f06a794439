/- Sums of products around a row: cyclic, negacyclic, correlations; what transforms make of them. -/
import Derived.Test.YtnmjomcpkckihaaDoorM12
namespace Go.Proofs.YtnmjomcpkckihaaDoor.M
set_option autoImplicit false
set_option linter.unusedVariables false
set_option linter.unusedSimpArgs false
section
variable {R : Nat} [NeZero R]
/-- The sum of products around a row of n places: what goes over the end comes in again, s times. -/
def wrp (n : Nat) (s : Fin R) (f g : Nat → Fin R) (j : Nat) : Fin R := Sm n (fun i => if i ≤ j then f i * g (j - i) else s * (f i * g (j + n - i)))
theorem wrp_congr {n : Nat} {s : Fin R} {f f' g g' : Nat → Fin R} {j : Nat} (hj : j < n) (h : ∀ i, i < n → f i = f' i) (h2 : ∀ i, i < n → g i = g' i) : wrp n s f g j = wrp n s f' g' j := by
  unfold wrp
  refine Sm_congr (fun i hi => ?_)
  by_cases c : i ≤ j
  · rw [if_pos c, if_pos c, h i hi, h2 (j - i) (by omega)]
  · rw [if_neg c, if_neg c, h i hi, h2 (j + n - i) (by omega)]
theorem wrp_fold {n j : Nat} (hj : j < n) (s : Fin R) {f g : Nat → Fin R} (hf : ∀ i, n ≤ i → f i = 0) (hg : ∀ i, n ≤ i → g i = 0) : wrp n s f g j = cvl f g j + s * cvl f g (j + n) := by
  have e1 : cvl f g j = Sm n (fun i => if i ≤ j then f i * g (j - i) else 0) := by
    rw [Sm_ext (a := j + 1) (b := n) (by omega) (fun i h1 _ => if_neg (by omega))]
    exact Sm_congr (fun i hi => (if_pos (by omega)).symm)
  have e2 : cvl f g (j + n) = Sm n (fun i => if i ≤ j then 0 else f i * g (j + n - i)) := by
    unfold cvl
    rw [Sm_ext (a := n) (b := j + n + 1) (by omega) (fun i h1 _ => by rw [hf i h1]; exact k0 _)]
    refine Sm_congr (fun i hi => ?_)
    by_cases c : i ≤ j
    · rw [if_pos c, hg _ (by omega)]; exact k1 _
    · rw [if_neg c]
  rw [e1, e2, ← Sm_mul, ← Sm_add]
  refine Sm_congr (fun i hi => ?_)
  by_cases c : i ≤ j
  · rw [if_pos c, if_pos c, if_pos c]; exact k2 _ _
  · rw [if_neg c, if_neg c, if_neg c]; exact k3 _
where
  k0 (x : Fin R) : 0 * x = 0 := by grind
  k1 (x : Fin R) : x * 0 = 0 := by grind
  k2 (x s : Fin R) : x = x + s * 0 := by grind
  k3 (x : Fin R) : x = 0 + x := by grind
theorem wrp_comm {n j : Nat} (hj : j < n) (s : Fin R) {f g : Nat → Fin R} (hf : ∀ i, n ≤ i → f i = 0) (hg : ∀ i, n ≤ i → g i = 0) : wrp n s f g j = wrp n s g f j := by
  rw [wrp_fold hj s hf hg, wrp_fold hj s hg hf, cvl_comm f g, cvl_comm f g]
theorem ev_wrp {n : Nat} {f g : Nat → Fin R} (hf : ∀ i, n ≤ i → f i = 0) (hg : ∀ i, n ≤ i → g i = 0) {x : Fin R} (hx : x ^ n = 1) : ev n (wrp n 1 f g) x = ev n f x * ev n g x := by
  rw [← ev_mul hf hg]
  have e : ev (n + n) (cvl f g) x = ev n (cvl f g) x + Sm n (fun i => cvl f g (n + i) * x ^ (n + i)) := Sm_split n n _
  rw [e]
  unfold ev
  rw [← Sm_add]
  refine Sm_congr (fun i hi => ?_)
  rw [wrp_fold hi 1 hf hg, pow_add', hx, Nat.add_comm n i]
  exact k1 _ _ _
where
  k1 (a b c : Fin R) : (a + 1 * b) * c = a * c + b * (1 * c) := by grind
theorem wrp_weigh {n j : Nat} (hj : j < n) (f g : Nat → Fin R) {w v : Fin R} (hw : w ^ n = -1) (hv : w * v = 1) : wrp n 1 (fun i => f i * w ^ i) (fun i => g i * w ^ i) j * v ^ j = wrp n (-1) f g j := by
  unfold wrp
  rw [← Sm_mul_right]
  refine Sm_congr (fun i hi => ?_)
  have h1 := one_mul_eq hv j
  by_cases c : i ≤ j
  · rw [if_pos c, if_pos c]
    have e : w ^ i * w ^ (j - i) = w ^ j := by rw [← pow_add', show i + (j - i) = j by omega]
    exact k1 _ _ _ _ _ _ e h1
  · rw [if_neg c, if_neg c]
    have e : w ^ i * w ^ (j + n - i) = w ^ j * -1 := by rw [← hw, ← pow_add', ← pow_add', show i + (j + n - i) = j + n by omega]
    exact k2 _ _ _ _ _ _ e h1
where
  k1 (a b p q r s : Fin R) (e : p * q = r) (h : r * s = 1) : a * p * (b * q) * s = a * b := by
    have : a * p * (b * q) * s = a * b * (p * q * s) := by grind
    rw [this, e, h]; grind
  k2 (a b p q r s : Fin R) (e : p * q = r * -1) (h : r * s = 1) : 1 * (a * p * (b * q)) * s = -1 * (a * b) := by
    have : 1 * (a * p * (b * q)) * s = a * b * (p * q * s) := by grind
    rw [this, e]
    have : r * -1 * s = -1 := by
      have : r * -1 * s = - (r * s) := by grind
      rw [this, h]
    rw [this]; grind
theorem wrp_one {n j : Nat} (hj : j < n) (f : Nat → Fin R) : wrp n 1 f (fun i => if i = 0 then 1 else 0) j = f j := by
  unfold wrp
  have e0 : (fun i => if i = 0 then (1 : Fin R) else 0) 0 = 1 := if_pos rfl
  have e1 : ∀ m, m ≠ 0 → (fun i => if i = 0 then (1 : Fin R) else 0) m = 0 := fun m hm => if_neg hm
  rw [Sm_one (j := j) hj]
  · rw [if_pos (Nat.le_refl _), Nat.sub_self, e0]; exact k1 _
  · intro i hi hne
    by_cases c : i ≤ j
    · rw [if_pos c, e1 _ (by omega)]; exact k2 _
    · rw [if_neg c, e1 _ (by omega)]; exact k3 _
where
  k1 (x : Fin R) : x * 1 = x := by grind
  k2 (x : Fin R) : x * 0 = 0 := by grind
  k3 (x : Fin R) : 1 * (x * 0) = 0 := by grind
end
/-- A function, nought past so many places. -/
def cut (n : Nat) (f : Nat → F) (i : Nat) : F := if i < n then f i else 0
theorem cut_in {n i : Nat} (f : Nat → F) (h : i < n) : cut n f i = f i := if_pos h
theorem cut_out {n : Nat} (f : Nat → F) : ∀ i, n ≤ i → cut n f i = 0 := fun i h => if_neg (by omega)
theorem dr_pow_full {k : Nat} (h : k ≤ 32) (d : Int) (j : Nat) : (dr k d ^ j) ^ (2 ^ k) = 1 := by
  rw [← pow_mul', Nat.mul_comm, pow_mul', dr_full h, one_pow']
theorem tf_fwd (k : Nat) (f : Nat → F) (j : Nat) : tf k 0 f j = dft (2 ^ k) (dr k 0) f j := if_neg (by omega)
/-- The transform of a sum of products around the row is the product of the transforms. -/
theorem tf_wrp {k : Nat} (h : k ≤ 32) (f g : Nat → F) (j : Nat) : tf k 0 (wrp (2 ^ k) 1 f g) j = tf k 0 f j * tf k 0 g j := by
  have e : tf k 0 (wrp (2 ^ k) 1 f g) j = tf k 0 (wrp (2 ^ k) 1 (cut (2 ^ k) f) (cut (2 ^ k) g)) j := tf_congr (fun i hi => wrp_congr hi (fun t ht => (cut_in f ht).symm) (fun t ht => (cut_in g ht).symm)) j
  rw [e, tf_fwd, dft_ev, ev_wrp (cut_out f) (cut_out g) (dr_pow_full h 0 j), ← dft_ev, ← dft_ev, tf_fwd, tf_fwd, dft_congr (fun i hi => cut_in f hi), dft_congr (fun i hi => cut_in g hi)]
theorem wrp_tf {k : Nat} (h : k ≤ 32) (f g : Nat → F) {j : Nat} (hj : j < 2 ^ k) : tf k 1 (fun i => tf k 0 f i * tf k 0 g i) j = wrp (2 ^ k) 1 f g j := by
  have e := tf_tf h (d := 0) (.inl rfl) (wrp (2 ^ k) 1 f g) hj
  rw [show (1 : Int) - 0 = 1 by omega] at e
  rw [← e]
  exact tf_congr (fun i _ => (tf_wrp h f g i).symm) j
theorem wrp_comm' {n j : Nat} (hj : j < n) (s : F) (f g : Nat → F) : wrp n s f g j = wrp n s g f j := by
  rw [wrp_congr hj (fun i hi => (cut_in f hi).symm) (fun i hi => (cut_in g hi).symm), wrp_comm hj s (cut_out f) (cut_out g), wrp_congr hj (fun i hi => cut_in g hi) (fun i hi => cut_in f hi)]
theorem tf_inj {k : Nat} (h : k ≤ 32) {f g : Nat → F} (e : ∀ j, j < 2 ^ k → tf k 0 f j = tf k 0 g j) {i : Nat} (hi : i < 2 ^ k) : f i = g i := by
  have e1 := tf_tf h (d := 0) (.inl rfl) f hi
  have e2 := tf_tf h (d := 0) (.inl rfl) g hi
  rw [← e1, ← e2]
  exact tf_congr e i
/-- A row turned by s places. -/
def trn (n s : Nat) (f : Nat → F) (i : Nat) : F := f ((i + (n - s % n)) % n)
theorem trn_step {n s : Nat} (hn : 0 < n) (f : Nat → F) {i : Nat} (hi : i < n) : trn n (s + 1) f i = trn n s f ((i + n - 1) % n) := by
  unfold trn
  congr 1
  have h1 : (s + 1) % n = if s % n + 1 = n then 0 else s % n + 1 := by
    have := Nat.mod_lt s hn
    by_cases c : s % n + 1 = n
    · rw [if_pos c, Nat.add_mod]
      rcases Nat.lt_or_ge 1 n with h | h
      · rw [Nat.mod_eq_of_lt h, c, Nat.mod_self]
      · have : n = 1 := by omega
        subst this; omega
    · rw [if_neg c, Nat.add_mod, Nat.mod_eq_of_lt (a := 1) (by omega), Nat.mod_eq_of_lt (a := s % n + 1) (by omega)]
  have h2 := Nat.mod_lt s hn
  rw [h1]
  have hm : ∀ x, x < n → x % n = x := fun x hx => Nat.mod_eq_of_lt hx
  have hm2 : ∀ x, n ≤ x → x < 2 * n → x % n = x - n := fun x h1 h2 => by rw [Nat.mod_eq_sub_mod h1, Nat.mod_eq_of_lt (by omega)]
  have hm3 : ∀ x, 2 * n ≤ x → x < 3 * n → x % n = x - 2 * n := fun x h1 h2 => by rw [Nat.mod_eq_sub_mod (by omega), hm2 (x - n) (by omega) (by omega)]; omega
  by_cases c0 : i = 0
  · have e1 : (i + n - 1) % n = n - 1 := by rw [hm _ (by omega)]; omega
    rw [e1]
    by_cases c : s % n + 1 = n
    · rw [if_pos c]
      by_cases c1 : n = 1
      · subst c1; omega
      · rw [hm2 (i + (n - 0)) (by omega) (by omega), hm2 (n - 1 + (n - s % n)) (by omega) (by omega)]; omega
    · rw [if_neg c]
      by_cases c2 : s % n = 0
      · rw [hm (i + (n - (s % n + 1))) (by omega), c2, hm2 (n - 1 + (n - 0)) (by omega) (by omega)]; omega
      · rw [hm (i + (n - (s % n + 1))) (by omega), hm2 (n - 1 + (n - s % n)) (by omega) (by omega)]; omega
  · have e1 : (i + n - 1) % n = i - 1 := by rw [hm2 _ (by omega) (by omega)]; omega
    rw [e1]
    by_cases c : s % n + 1 = n
    · rw [if_pos c, hm2 (i + (n - 0)) (by omega) (by omega), hm (i - 1 + (n - s % n)) (by omega)]; omega
    · rw [if_neg c]; congr 1; omega
theorem trn_zero {n : Nat} (f : Nat → F) {i : Nat} (hi : i < n) : trn n 0 f i = f i := by
  unfold trn
  rw [Nat.zero_mod, Nat.sub_zero, Nat.add_mod_right, Nat.mod_eq_of_lt hi]
theorem wrp_trn {k : Nat} (h : k ≤ 32) (f g : Nat → F) : ∀ (s : Nat) {j : Nat}, j < 2 ^ k → wrp (2 ^ k) 1 (trn (2 ^ k) s f) g j = trn (2 ^ k) s (wrp (2 ^ k) 1 f g) j
  | 0, j, hj => by rw [trn_zero _ hj]; exact wrp_congr hj (fun i hi => trn_zero f hi) (fun _ _ => rfl)
  | s + 1, j, hj => by
    have hp := Nat.two_pow_pos k
    refine tf_inj h (fun p _ => ?_) hj
    have hlt : ∀ i, (i + 2 ^ k - 1) % 2 ^ k < 2 ^ k := fun i => Nat.mod_lt _ hp
    rw [tf_wrp h, tf_turn h (.inl rfl) (trn (2 ^ k) s f) _ (fun i hi => trn_step hp f hi), tf_turn h (.inl rfl) (trn (2 ^ k) s (wrp (2 ^ k) 1 f g)) _ (fun i hi => trn_step hp _ hi)]
    have e : tf k 0 (trn (2 ^ k) s (wrp (2 ^ k) 1 f g)) p = tf k 0 (wrp (2 ^ k) 1 (trn (2 ^ k) s f) g) p := tf_congr (fun i hi => (wrp_trn h f g s hi).symm) p
    rw [e, tf_wrp h]
    exact k1 _ _ _
where
  k1 {R : Nat} [NeZero R] (a b c : Fin R) : a * b * c = a * c * b := by grind
theorem tn_tn {n p : Nat} (hp : p < n) : tn n (tn n p) = p := by
  unfold tn
  by_cases c : p = 0
  · subst c; rw [Nat.sub_zero, Nat.mod_self, Nat.sub_zero, Nat.mod_self]
  · rw [Nat.mod_eq_of_lt (a := n - p) (by omega), show n - (n - p) = p by omega, Nat.mod_eq_of_lt hp]
/-- The correlation of two rows. -/
def crl (n : Nat) (f g : Nat → F) (j : Nat) : F := Sm n (fun m => f ((m + j) % n) * g m)
theorem crl_tf {k : Nat} (h : k ≤ 32) (f g : Nat → F) {j : Nat} (hj : j < 2 ^ k) : tf k 1 (fun p => tf k 0 f p * tf k 0 g (tn (2 ^ k) p)) j = crl (2 ^ k) f g j := by
  have hp0 := Nat.two_pow_pos k
  have e0 : ∀ p, p < 2 ^ k → tf k 0 g (tn (2 ^ k) p) = dft (2 ^ k) (dr k 1) g p := fun p hp => by
    rw [tf_fwd]
    unfold dft
    refine Sm_congr (fun i _ => ?_)
    rw [dr_turn h _ (tn_lt hp0), tn_tn hp]
  rw [tf_congr (g := fun p => tf k 0 f p * dft (2 ^ k) (dr k 1) g p) (fun p hp => by rw [e0 p hp])]
  unfold tf
  rw [if_pos rfl]
  unfold dft
  have e1 : Sm (2 ^ k) (fun p => tf k 0 f p * Sm (2 ^ k) (fun m => g m * (dr k 1 ^ p) ^ m) * (dr k 1 ^ j) ^ p) = Sm (2 ^ k) (fun p => Sm (2 ^ k) (fun m => g m * (tf k 0 f p * (dr k 1 ^ ((m + j) % 2 ^ k)) ^ p))) := by
    refine Sm_congr (fun p _ => ?_)
    have : tf k 0 f p * Sm (2 ^ k) (fun m => g m * (dr k 1 ^ p) ^ m) * (dr k 1 ^ j) ^ p = tf k 0 f p * (dr k 1 ^ j) ^ p * Sm (2 ^ k) (fun m => g m * (dr k 1 ^ p) ^ m) := k1 _ _ _
    rw [this, ← Sm_mul]
    refine Sm_congr (fun m _ => ?_)
    have e2 : dr k 1 ^ ((m + j) % 2 ^ k) = dr k 1 ^ (m + j) := by
      have e3 : dr k 1 ^ (2 ^ k * ((m + j) / 2 ^ k)) = 1 := by rw [pow_mul', dr_full h, one_pow']
      have e4 : dr k 1 ^ (2 ^ k * ((m + j) / 2 ^ k) + (m + j) % 2 ^ k) = dr k 1 ^ ((m + j) % 2 ^ k) := by rw [pow_add', e3]; exact k4 _
      rw [← e4, Nat.div_add_mod]
    rw [e2, ← pow_mul' (dr k 1) p m, ← pow_mul', ← pow_mul', show (m + j) * p = p * m + j * p by rw [Nat.add_mul, Nat.mul_comm m p], pow_add']
    exact k2 _ _ _ _
  have e2 : (fun i => (if (0 : Int) = 1 then Sm (2 ^ k) (fun i_1 => f i_1 * (dr k 0 ^ i) ^ i_1) * sh k else Sm (2 ^ k) fun i_1 => f i_1 * (dr k 0 ^ i) ^ i_1)) = tf k 0 f := rfl
  show Sm (2 ^ k) (fun p => tf k 0 f p * Sm (2 ^ k) (fun m => g m * (dr k 1 ^ p) ^ m) * (dr k 1 ^ j) ^ p) * sh k = _
  rw [e1, Sm_swap, ← Sm_mul_right]
  unfold crl
  refine Sm_congr (fun m _ => ?_)
  rw [Sm_mul]
  have key := tf_tf h (d := 0) (.inl rfl) f (Nat.mod_lt (m + j) hp0)
  rw [show (1 : Int) - 0 = 1 by omega] at key
  have key2 : tf k 1 (tf k 0 f) ((m + j) % 2 ^ k) = Sm (2 ^ k) (fun p => tf k 0 f p * (dr k 1 ^ ((m + j) % 2 ^ k)) ^ p) * sh k := if_pos rfl
  rw [← key, key2]
  exact k3 _ _ _
where
  k1 {R : Nat} [NeZero R] (a b c : Fin R) : a * b * c = a * c * b := by grind
  k2 {R : Nat} [NeZero R] (a b c d : Fin R) : a * b * (c * d) = c * (a * (d * b)) := by grind
  k3 {R : Nat} [NeZero R] (a b c : Fin R) : a * b * c = b * c * a := by grind
  k4 {R : Nat} [NeZero R] (a : Fin R) : 1 * a = a := by grind
end Go.Proofs.YtnmjomcpkckihaaDoor.M
