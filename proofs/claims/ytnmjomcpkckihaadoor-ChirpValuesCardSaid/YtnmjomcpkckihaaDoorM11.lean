/- Rows of raw words; a row turned by one place; the transform of a product. -/
import Derived.Test.YtnmjomcpkckihaaDoorM10
namespace Go.Proofs.YtnmjomcpkckihaaDoor.M
set_option autoImplicit false
set_option linter.unusedVariables false
set_option linter.unusedSimpArgs false
/-- A row of words, as they stand. -/
def raw (m : Nat) (g : Nat → Int) : List Int := (List.range m).map g
theorem raw_length (m : Nat) (g : Nat → Int) : (raw m g).length = m := by simp [raw]
theorem raw_get? (m : Nat) (g : Nat → Int) (i : Nat) : (raw m g)[i]? = if i < m then some (g i) else none := by
  unfold raw
  by_cases h : i < m
  · rw [if_pos h, List.getElem?_map, List.getElem?_range h]; rfl
  · rw [if_neg h, List.getElem?_eq_none (by rw [List.length_map, List.length_range]; omega)]
theorem raw_getD (m : Nat) (g : Nat → Int) (i : Nat) : (raw m g).getD i 0 = if i < m then g i else 0 := by
  rw [List.getD_eq_getElem?_getD, raw_get?]
  by_cases h : i < m
  · rw [if_pos h, if_pos h]; rfl
  · rw [if_neg h, if_neg h]; rfl
theorem raw_congr {m : Nat} {f g : Nat → Int} (h : ∀ i, i < m → f i = g i) : raw m f = raw m g :=
  List.map_congr_left (fun j hj => h j (List.mem_range.1 hj))
theorem raw_set (m : Nat) (g : Nat → Int) (i : Nat) (v : Int) : (raw m g).set i v = raw m (fun j => if j = i then v else g j) := by
  apply List.ext_getElem?
  intro j
  rw [List.getElem?_set, raw_get?, raw_get?, raw_length]
  by_cases e : i = j
  · subst e
    by_cases h : i < m
    · rw [if_pos rfl, if_pos h, if_pos h, if_pos rfl]
    · rw [if_pos rfl, if_neg h, if_neg h]
  · rw [if_neg e, if_neg (Ne.symm e)]
theorem raw_succ (m : Nat) (g : Nat → Int) : raw (m + 1) g = raw m g ++ [g m] := by
  unfold raw; rw [List.range_succ, List.map_append]; rfl
theorem raw_zeros (m : Nat) : List.replicate m (0 : Int) = raw m (fun _ => 0) := by
  apply List.ext_getElem?
  intro j
  rw [List.getElem?_replicate, raw_get?]
theorem raw_nil (g : Nat → Int) : raw 0 g = [] := rfl
theorem co_raw (m : Nat) (g : Nat → Int) (i : Nat) : co (raw m g) i = if i < m then cv (g i) else 0 := by
  unfold co
  rw [raw_getD]
  by_cases h : i < m
  · rw [if_pos h, if_pos h]
  · rw [if_neg h, if_neg h]; rfl
section
variable {R : Nat} [NeZero R]
/-- The sums of a row turned by one place. -/
theorem turn_one {n : Nat} (hn : 0 < n) (f : Nat → Fin R) {z : Fin R} (hz : z ^ n = 1) :
    Sm n (fun i => f ((i + n - 1) % n) * z ^ i) = Sm n (fun i => f i * z ^ i) * z := by
  obtain ⟨m, rfl⟩ : ∃ m, n = m + 1 := ⟨n - 1, by omega⟩
  rw [Sm_first, Sm_succ]
  have e0 : (0 + (m + 1) - 1) % (m + 1) = m := by rw [show 0 + (m + 1) - 1 = m by omega, Nat.mod_eq_of_lt (by omega)]
  have e1 : Sm m (fun i => f ((i + 1 + (m + 1) - 1) % (m + 1)) * z ^ (i + 1)) = Sm m (fun i => f i * z ^ i) * z := by
    rw [← Sm_mul_right]
    refine Sm_congr (fun i hi => ?_)
    rw [show i + 1 + (m + 1) - 1 = i + (m + 1) by omega, Nat.add_mod_right, Nat.mod_eq_of_lt (by omega)]
    exact k1 _ _ _
  rw [e0, e1, k2 _ _ _ _ (by rw [← pow_succ' z m, hz])]
where
  pow_succ' (z : Fin R) (m : Nat) : z ^ (m + 1) = z ^ m * z := by grind
  k1 (a z : Fin R) (i : Nat) : a * z ^ (i + 1) = a * z ^ i * z := by grind
  k2 (s f z p : Fin R) (h : p * z = 1) : f * z ^ 0 + s * z = (s + f * p) * z := by grind
end
theorem tf_turn {k : Nat} (h : k ≤ 32) {d : Int} (hd : d = 0 ∨ d = 1) (f g : Nat → F) (hg : ∀ i, i < 2 ^ k → g i = f ((i + 2 ^ k - 1) % 2 ^ k)) (j : Nat) : tf k d g j = tf k d f j * dr k d ^ j := by
  have e : dft (2 ^ k) (dr k d) g j = dft (2 ^ k) (dr k d) f j * dr k d ^ j := by
    rw [dft_congr hg]
    refine turn_one (Nat.two_pow_pos k) f ?_
    rw [← pow_mul', Nat.mul_comm, pow_mul', dr_full h, one_pow']
  unfold tf
  rw [e]
  by_cases c : d = 1
  · rw [if_pos c, if_pos c]; exact k1 _ _ _
  · rw [if_neg c, if_neg c]
where k1 {R : Nat} [NeZero R] (a b c : Fin R) : a * b * c = a * c * b := by grind
theorem tf_add {k : Nat} {d : Int} (f g : Nat → F) (c : F) (j : Nat) : tf k d (fun i => f i + g i * c) j = tf k d f j + tf k d g j * c := by
  have e : dft (2 ^ k) (dr k d) (fun i => f i + g i * c) j = dft (2 ^ k) (dr k d) f j + dft (2 ^ k) (dr k d) g j * c := by
    rw [← dft_scale]
    unfold dft
    rw [← Sm_add]
    exact Sm_congr (fun i _ => k1 _ _ _)
  unfold tf
  rw [e]
  by_cases c' : d = 1
  · rw [if_pos c', if_pos c', if_pos c']; exact k2 _ _ _ _
  · rw [if_neg c', if_neg c', if_neg c']
where
  k1 {R : Nat} [NeZero R] (a b c : Fin R) : (a + b) * c = a * c + b * c := by grind
  k2 {R : Nat} [NeZero R] (a b c s : Fin R) : (a + b * c) * s = a * s + b * s * c := by grind
/-- The transform of a product of polynomials that has room. -/
theorem tf_prod {k n m : Nat} (hk : n + m ≤ 2 ^ k) (f g : Nat → F) (hf : ∀ i, n ≤ i → f i = 0) (hg : ∀ i, m ≤ i → g i = 0) (j : Nat) : tf k 0 (cvl f g) j = tf k 0 f j * tf k 0 g j := by
  unfold tf
  rw [if_neg (by omega), if_neg (by omega), if_neg (by omega), dft_ev, dft_ev, dft_ev]
  rw [ev_ext (n := n + m) _ hk (fun i h1 _ => cvl_out hf hg (by omega)), ev_mul hf hg, ev_ext (n := n) (m := 2 ^ k) (f := f) _ (by omega) (fun i h1 _ => hf i h1), ev_ext (n := m) (m := 2 ^ k) (f := g) _ (by omega) (fun i h1 _ => hg i h1)]
end Go.Proofs.YtnmjomcpkckihaaDoor.M
