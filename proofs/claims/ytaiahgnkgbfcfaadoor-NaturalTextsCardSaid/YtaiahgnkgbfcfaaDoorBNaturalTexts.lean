/- What each function of the law NaturalTexts answers, in the field's own words: plain contracts over the printed functions. -/
import Derived.Test.YtaiahgnkgbfcfaaDoorPNaturalTextsx0
import Derived.Test.YtaiahgnkgbfcfaaDoorPNaturalTextsx1
import Derived.Test.YtaiahgnkgbfcfaaDoorPNaturalTextsx2
import Derived.Test.YtaiahgnkgbfcfaaDoorPNaturalTextsx3
import Derived.Test.YtaiahgnkgbfcfaaDoorPNaturalTextsx4
import Derived.Test.YtaiahgnkgbfcfaaDoorPNaturalTextsx5
import Derived.Test.YtaiahgnkgbfcfaaDoorPNaturalTextsx6
import Derived.Test.YtaiahgnkgbfcfaaDoorPNaturalTextsx7
import Derived.Test.YtaiahgnkgbfcfaaDoorPNaturalTextsx8
import Derived.Test.YtaiahgnkgbfcfaaDoorPNaturalTextsx9
import Derived.Test.YtaiahgnkgbfcfaaDoorPNaturalTextsx10
import Derived.Test.YtaiahgnkgbfcfaaDoorPNaturalTextsx11
import Derived.Test.YtaiahgnkgbfcfaaDoorMNaturalTexts
namespace Go.Proofs.YtaiahgnkgbfcfaaDoor.BNaturalTexts
set_option linter.unusedVariables false
set_option linter.unusedSimpArgs false
open Go Go.RowKit Go.Proofs.YtaiahgnkgbfcfaaDoor.M Go.Proofs.YtaiahgnkgbfcfaaDoor.PNaturalTexts Go.Proofs.YtaiahgnkgbfcfaaDoorW.PrintWords Go.Proofs.YtaiahgnkgbfcfaaDoorW.PrintLast Go.Proofs.YtaiahgnkgbfcfaaDoorW.PrintMore
def U (a : Int) : Prop := 0 ≤ a ∧ a < 18446744073709551616
theorem U_un (x : F) : U (un x) := ⟨un_lo x, by have := un_hi x; omega⟩
theorem U_of_wf {a : Int} (h : (Lit.int .u64 a).wf = true) : U a := by
  simp [Lit.wf, IntKind.min, IntKind.max, IntKind.signed, IntKind.bits] at h
  exact ⟨by omega, by omega⟩
theorem wu64 (a : Int) : IntKind.u64.wrap a = a % 18446744073709551616 := by simp [IntKind.wrap, IntKind.bits, IntKind.signed]
theorem wu64_of {a : Int} (h : U a) : IntKind.u64.wrap a = a := by rw [wu64]; have := h.1; have := h.2; omega
theorem U_wrap (a : Int) : U (IntKind.u64.wrap a) := by rw [wu64]; exact ⟨by omega, by omega⟩
theorem and_low {a : Int} (h : U a) : Go.bits .and .u64 a 4294967295 = a % 4294967296 := by
  have := bits_mask .u64 64 (by decide) (fun n h0 h1 => by rw [wu64]; omega) 32 (by decide) a h.1 (by have := h.2; omega)
  simpa using this
theorem and_one {a : Int} (h : U a) : Go.bits .and .u64 a 1 = a % 2 := by
  have := bits_mask .u64 64 (by decide) (fun n h0 h1 => by rw [wu64]; omega) 1 (by decide) a h.1 (by have := h.2; omega)
  simpa using this
theorem wrap64_of {a : Int} (h0 : -9223372036854775808 ≤ a) (h1 : a < 9223372036854775808) : wrap64 a = a := by unfold wrap64; omega
/-- Rows of words. -/
def UL (l : List Int) : Prop := ∀ x ∈ l, U x
theorem UL_of_wf {l : List Int} (h : ∀ x ∈ l, (Lit.int .u64 x).wf = true) : UL l := fun x hx => U_of_wf (h x hx)
theorem U_zero : U 0 := ⟨by omega, by omega⟩
theorem U_one : U 1 := ⟨by omega, by omega⟩
theorem U_getD {l : List Int} (h : UL l) (i : Nat) : U (l.getD i 0) := by
  rw [List.getD_eq_getElem?_getD]
  by_cases hi : i < l.length
  · rw [List.getElem?_eq_getElem hi]; exact h _ (List.getElem_mem hi)
  · rw [List.getElem?_eq_none (by omega)]; exact U_zero
theorem U_rd {l : List Int} (h : UL l) (i : Int) : U (rd l i) := U_getD h _
theorem UL_tab (m : Nat) (f : Nat → F) : UL (tab m f) := by
  intro x hx
  unfold tab at hx
  obtain ⟨j, _, rfl⟩ := List.mem_map.1 hx
  exact U_un _
theorem UL_nil : UL [] := fun x hx => by cases hx
theorem rd_nat (l : List Int) (i : Nat) : rd l (i : Int) = l.getD i 0 := by unfold rd; rw [Int.toNat_natCast]
theorem cv_rd (l : List Int) (i : Nat) : cv (rd l (i : Int)) = co l i := by rw [rd_nat]; rfl
theorem rd_tab {m : Nat} {f : Nat → F} {i : Nat} (h : i < m) : rd (tab m f) (i : Int) = un (f i) := by rw [rd_nat, tab_getD m f i h]
theorem nat64_succ {i : Nat} (h : i < 9223372036854775807) : wrap64 ((i : Int) + 1) = ((i + 1 : Nat) : Int) := by unfold wrap64; omega
/-- A loop that counts up. -/
theorem Ev_loop {α : Type} {r : α} (n : Nat) (g : Nat → Nat → Option α) (last : Ev (fun k => g k n) r) (step : ∀ i, i < n → Ev (fun k => g k (i + 1)) r → Ev (fun k => g k i) r) (i : Nat) (hi : i ≤ n) : Ev (fun k => g k i) r := by
  have key : ∀ d i, i + d = n → Ev (fun k => g k i) r := by
    intro d
    induction d with
    | zero => intro i hi; obtain rfl : i = n := by omega
              exact last
    | succ d ih => intro i hi; exact step i (by omega) (ih (i + 1) (by omega))
  exact key (n - i) i (by omega)
theorem down_at (i : Nat) : (((i + 1 : Nat) : Int) - 1) = (i : Int) := by omega
theorem down_next {i : Nat} (h : i < 9223372036854775807) : wrap64 ((i : Int) - 1) = (i : Int) - 1 := by unfold wrap64; omega
theorem len64 {n : Nat} (h : n < 9223372036854775807) : wrap64 ((n : Int) - 1) = (n : Int) - 1 := by unfold wrap64; omega
theorem U_nat {n : Nat} (h : n < 18446744073709551616) : U (n : Int) := ⟨Int.natCast_nonneg _, by omega⟩
theorem two_pow_lt {n m : Nat} (h : n ≤ m) : 2 ^ n ≤ 2 ^ m := Nat.pow_le_pow_right (by omega) h
theorem U_two_pow {n : Nat} (h : n ≤ 63) : U ((2 ^ n : Nat) : Int) := U_nat (by have := two_pow_lt h; omega)
theorem i64wrap (a : Int) : IntKind.i64.wrap a = wrap64 a := by rw [IntKind.wrap_i64]; unfold wrap64; rfl
theorem int_two_pow (n : Nat) : ((2 : Int) ^ n) = ((2 ^ n : Nat) : Int) := by simp
theorem shl_i64 {n : Nat} (h : n ≤ 62) : shl .i64 1 (IntKind.u64.wrap (n : Int)) = ((2 ^ n : Nat) : Int) := by
  have hu : IntKind.u64.wrap (n : Int) = (n : Int) := wu64_of ⟨by omega, by omega⟩
  unfold shl
  rw [hu, Int.toNat_natCast, Nat.min_eq_left (by rw [show IntKind.i64.bits = 64 from rfl]; omega), i64wrap, Int.one_mul, int_two_pow]
  have := two_pow_lt (n := n) (m := 62) h
  generalize 2 ^ n = q at *
  rw [wrap64_of (by omega) (by omega)]
theorem shl_u64 {n : Nat} (h : n ≤ 63) : shl .u64 1 (IntKind.u64.wrap (n : Int)) = ((2 ^ n : Nat) : Int) := by
  have hu : IntKind.u64.wrap (n : Int) = (n : Int) := wu64_of ⟨by omega, by omega⟩
  unfold shl
  rw [hu, Int.toNat_natCast, Nat.min_eq_left (by rw [show IntKind.u64.bits = 64 from rfl]; omega), Int.one_mul, int_two_pow]
  have := two_pow_lt (n := n) (m := 63) h
  generalize 2 ^ n = q at *
  exact wu64_of ⟨by omega, by omega⟩
theorem getD_take {l : List Int} {d i : Nat} (h : i < d) : (l.take d).getD i 0 = l.getD i 0 := by
  rw [List.getD_eq_getElem?_getD, List.getD_eq_getElem?_getD, List.getElem?_take, if_pos h]
theorem UL_take {l : List Int} (h : UL l) (d : Nat) : UL (l.take d) := fun x hx => h x (List.mem_of_mem_take hx)
theorem co_take {l : List Int} {d i : Nat} (h : i < d) : co (l.take d) i = co l i := by unfold co; rw [getD_take h]
theorem UL_tr (m : Nat) (f : Nat → F) : UL (tr m f) := UL_tab _ _
theorem add64 {a b : Nat} (h : a + b < 9223372036854775808) : wrap64 ((a : Int) + (b : Int)) = ((a + b : Nat) : Int) := by unfold wrap64; omega
theorem UL_cons {a : Int} {l : List Int} (h : U a) (hl : UL l) : UL (a :: l) := by
  intro x hx
  rcases List.mem_cons.1 hx with rfl | hx
  · exact h
  · exact hl x hx
theorem tm16 (n : Nat) : Int.tmod (n : Int) 65536 = ((n % 65536 : Nat) : Int) := by rw [Int.tmod_eq_emod_of_nonneg (by omega)]; omega
theorem td16 (n : Nat) : Int.tdiv (n : Int) 65536 = ((n / 65536 : Nat) : Int) := by rw [Int.tdiv_eq_ediv_of_nonneg (by omega)]; omega
theorem wu64_nat {n : Nat} (h : n < 18446744073709551616) : IntKind.u64.wrap (n : Int) = (n : Int) := wu64_of (U_nat h)
theorem Dg_UL {l : List Int} (h : Dg l) : UL l := fun x hx => by have := h x hx; exact ⟨by omega, by omega⟩
/-- A row of words that is a right number. -/
theorem hk_big_false {l : List Int} (hu : UL l) : hk_big l = false ↔ Dg l := by
  unfold hk_big
  rw [List.any_eq_false]
  constructor
  · intro h x hx
    have h1 := h x hx
    have h2 := hu x hx
    exact ⟨h2.1, by simpa using h1⟩
  · intro h x hx
    have h1 := h x hx
    simp only [decide_eq_true_eq]
    omega
theorem rd_last {l : List Int} (h : 0 < l.length) : rd l ((l.length : Int) - 1) = l.getD (l.length - 1) 0 := by
  rw [show (l.length : Int) - 1 = ((l.length - 1 : Nat) : Int) by omega, rd_nat]
theorem hk_good_iff {l : List Int} (hu : UL l) : hk_good l = true ↔ Nt l ∧ l.length ≤ 65536 := by
  unfold hk_good
  by_cases c1 : 65536 < l.length
  · rw [if_pos c1]
    exact ⟨fun h => (by cases h), fun h => absurd h.2 (by omega)⟩
  rw [if_neg c1]
  by_cases c2 : 0 < l.length ∧ rd l ((l.length : Int) - 1) = 0
  · rw [if_pos c2]
    refine ⟨fun h => (by cases h), fun h => ?_⟩
    rw [rd_last c2.1] at c2
    exact absurd c2.2 (h.1.last (by omega))
  rw [if_neg c2]
  have e : (!hk_big l) = true ↔ Dg l := by rw [← hk_big_false hu]; cases hk_big l <;> simp
  rw [e]
  constructor
  · intro h
    refine ⟨Nt_of h (fun i hi e0 => c2 ⟨by omega, ?_⟩), by omega⟩
    rw [rd_last (by omega), show l.length - 1 = i by omega]
    exact e0
  · intro h; exact h.1.Dg
theorem natural_Good_eq (l : List Int) : natural_Good.f l = some (hk_good l) := rfl
theorem Nt_good {l : List Int} (h : Nt l) (hl : l.length ≤ 65536) : hk_good l = true := (hk_good_iff (Dg_UL h.Dg)).2 ⟨h, hl⟩

theorem hk_tl_trz (l : List Int) : ∀ n, (trz l).length ≤ n → hk_tl l n = (trz l).length
  | 0, h => by
    have e : (trz l).length = 0 := by omega
    rw [e]; rfl
  | n + 1, h => by
    unfold hk_tl
    by_cases c : l.getD n 0 = 0
    · rw [if_pos c]
      refine hk_tl_trz l n ?_
      rcases Nat.lt_or_ge (trz l).length (n + 1) with d | d
      · omega
      · exact absurd c (trz_last (by omega))
    · rw [if_neg c]
      rcases Nat.lt_or_ge (trz l).length (n + 1) with d | d
      · exact absurd (trz_above (by omega)) c
      · omega
theorem natural_trim_eq (l : List Int) : natural_trim.f l = some (trz l) := by
  unfold natural_trim.f
  rw [hk_tl_trz l _ (trz_length l), trz_take]
theorem natural_trim_dgs {l : List Int} (h : Dg l) : natural_trim.f l = some (dgs (nv l)) := by rw [natural_trim_eq, trz_dgs h]

theorem or_u64 {x y m : Nat} (hy : y < 2 ^ m) (hm : m ≤ 63) (hx : x * 2 ^ m < 18446744073709551616) : Go.bits .or .u64 ((x * 2 ^ m : Nat) : Int) (y : Int) = ((x * 2 ^ m + y : Nat) : Int) := by
  have h1 : 2 ^ m ≤ 2 ^ 63 := Nat.pow_le_pow_right (by decide) hm
  have hb := (bits_nat .u64 64 (by decide) (fun n h0 h1 => by rw [wu64]; omega) (x * 2 ^ m) y (by omega) (by omega)).2
  have e := Nat.two_pow_add_eq_or_of_lt hy x
  rw [hb, Nat.mul_comm x, ← e]
theorem wu_shift {r : Nat} (h : r < 4294967296) : IntKind.u64.wrap ((r : Int) * 65536) = ((r * 65536 : Nat) : Int) := by
  rw [show (r : Int) * 65536 = ((r * 65536 : Nat) : Int) by omega]
  exact wu64_nat (by omega)
theorem or16 {r x : Nat} (hx : x < 65536) (hr : r < 4294967296) : Go.bits .or .u64 ((r * 65536 : Nat) : Int) (x : Int) = ((r * 65536 + x : Nat) : Int) := by
  have h := or_u64 (x := r) (y := x) (m := 16) (by rw [show (2 : Nat) ^ 16 = 65536 from rfl]; exact hx) (by decide) (by rw [show (2 : Nat) ^ 16 = 65536 from rfl]; omega)
  rw [show (2 : Nat) ^ 16 = 65536 from rfl] at h
  exact h
theorem nv_drop_step (l : List Int) (i : Nat) (h : i < l.length) : nv (l.drop i) = (l.getD i 0).toNat + 65536 * nv (l.drop (i + 1)) := by
  rw [List.drop_eq_getElem_cons h, nv_cons, List.getD_eq_getElem?_getD, List.getElem?_eq_getElem h]; rfl
theorem set_at : ∀ (m : Nat) (Q : List Int) (d : Int), (List.replicate (m + 1) 0 ++ Q).set m d = List.replicate m 0 ++ (d :: Q)
  | 0, _, _ => rfl
  | m + 1, Q, d => by
    have ih := set_at m Q d
    rw [List.replicate_succ, List.cons_append, List.set_cons_succ, ih, List.replicate_succ (n := m), List.cons_append]
theorem natural_divSmall_ev {a : List Int} (ha : Dg a) (hl : a.length < 4294967296) {n : Nat} (h0 : 0 < n) (hn : n ≤ 4294967296) : Ev (fun k => natural_divSmall.f k a (n : Int)) (dgs (nv a / n), ((nv a % n : Nat) : Int)) := by
  unfold natural_divSmall.f
  simp -implicitDefEqProofs only [show (0 : Int) ≤ (a.length : Int) by omega, if_true, Int.toNat_natCast, show a.length ≤ 35184372088832 by omega, down_next (show a.length < 9223372036854775807 by omega)]
  have key : ∀ (i : Nat) (Q : List Int), i ≤ a.length → Dg Q → Q.length = a.length - i → nv Q = nv (a.drop i) / n → Ev (fun k => natural_divSmall.l0 k a (n : Int) (List.replicate i 0 ++ Q) ((nv (a.drop i) % n : Nat) : Int) ((i : Int) - 1)) (dgs (nv a / n), ((nv a % n : Nat) : Int)) := by
    intro i
    induction i with
    | zero =>
      intro Q _ hQ _ hv
      refine Ev.step (fun k => natural_divSmall.l0.eq_2 ..) ?_
      rw [List.drop_zero] at hv
      rw [List.replicate_zero, List.nil_append, List.drop_zero]
      simp -implicitDefEqProofs only [show ¬ (((0 : Nat) : Int) - 1 ≥ 0) by omega, if_false, natural_trim_dgs hQ, Option.bind_some]
      rw [hv]
      exact Ev.now _
    | succ i ih =>
      intro Q hi hQ hQl hv
      obtain ⟨T, hT⟩ : ∃ T, T = nv (a.drop (i + 1)) := ⟨_, rfl⟩
      have hg := Dg_getD ha i
      obtain ⟨x, hx⟩ := Int.eq_ofNat_of_zero_le hg.1
      have hx2 : x < 65536 := by omega
      have hr := Nat.mod_lt T h0
      have hstep : nv (a.drop i) = x + 65536 * T := by rw [nv_drop_step a i hi, hx, ← hT]; rfl
      have hcur : T % n * 65536 + x < n * 65536 := by
        have := Nat.mul_le_mul_right 65536 (show T % n + 1 ≤ n from hr)
        omega
      have hd : (x + 65536 * T) / n = (T % n * 65536 + x) / n + 65536 * (T / n) := by
        have e : x + 65536 * T = (T % n * 65536 + x) + n * (65536 * (T / n)) := by
          have := Nat.div_add_mod T n
          generalize T % n = r at *
          generalize T / n = q at *
          subst this
          grind
        rw [e, Nat.add_mul_div_left _ _ h0]
      have hm : (x + 65536 * T) % n = (T % n * 65536 + x) % n := by
        have e : x + 65536 * T = (T % n * 65536 + x) + n * (65536 * (T / n)) := by
          have := Nat.div_add_mod T n
          generalize T % n = r at *
          generalize T / n = q at *
          subst this
          grind
        rw [e, Nat.add_mul_mod_self_left]
      have hq : (T % n * 65536 + x) / n < 65536 := by
        rw [Nat.div_lt_iff_lt_mul h0]; omega
      refine Ev.step (fun k => natural_divSmall.l0.eq_2 ..) ?_
      have hlen : (List.replicate (i + 1) (0 : Int) ++ Q).length = a.length := by rw [List.length_append, List.length_replicate, hQl]; omega
      have ew : IntKind.u64.wrap (((T % n : Nat) : Int) * 65536) = ((T % n * 65536 : Nat) : Int) := wu_shift (by omega)
      have eo : Go.bits .or .u64 ((T % n * 65536 : Nat) : Int) (x : Int) = ((T % n * 65536 + x : Nat) : Int) := or16 hx2 (by omega)
      have ed : Int.tdiv ((T % n * 65536 + x : Nat) : Int) (n : Int) = (((T % n * 65536 + x) / n : Nat) : Int) := by rw [Int.tdiv_eq_ediv_of_nonneg (by omega)]; exact (Int.natCast_ediv _ _).symm
      have em : Int.tmod ((T % n * 65536 + x : Nat) : Int) (n : Int) = (((T % n * 65536 + x) % n : Nat) : Int) := by rw [Int.tmod_eq_emod_of_nonneg (by omega)]; exact (Int.natCast_emod _ _).symm
      have er : rd a (i : Int) = (x : Int) := by rw [rd_nat, hx]
      rw [← hT] at hv ⊢
      simp -implicitDefEqProofs only [down_at, show (i : Int) ≥ 0 by omega, if_true, show (0 : Int) ≤ (i : Int) by omega, show (i : Int) < (a.length : Int) by omega, show ¬ (n : Int) = 0 by omega, if_false, hlen, er, ew, eo, ed, em, wu64_nat (show (T % n * 65536 + x) / n < 18446744073709551616 by omega), Int.toNat_natCast, set_at, down_next (show i < 9223372036854775807 by omega)]
      have ih2 := ih ((((T % n * 65536 + x) / n : Nat) : Int) :: Q) (by omega) (Dg_cons (Int.natCast_nonneg _) (Int.ofNat_lt.2 hq) hQ) (by rw [List.length_cons, hQl]; omega) (by rw [nv_cons, Int.toNat_natCast, hv, hstep, hd])
      rw [hstep, hm] at ih2
      exact ih2
  have e0 : nv (a.drop a.length) = 0 := by rw [List.drop_length]; rfl
  have := key a.length [] (Nat.le_refl _) Dg_nil (by simp) (by rw [e0, Nat.zero_div]; rfl)
  rw [e0, List.append_nil, Nat.zero_mod] at this
  exact this

/-- A row whose outer elements, so many on each side, have changed places. -/
def rvl (l : List Int) (i : Nat) : List Int := (List.range l.length).map fun p => if p < i ∨ l.length - 1 - p < i then l.getD (l.length - 1 - p) 0 else l.getD p 0
theorem rvl_length (l : List Int) (i : Nat) : (rvl l i).length = l.length := by simp [rvl]
theorem rvl_getD (l : List Int) (i p : Nat) (h : p < l.length) : (rvl l i).getD p 0 = if p < i ∨ l.length - 1 - p < i then l.getD (l.length - 1 - p) 0 else l.getD p 0 := by simp [rvl, h]
theorem list_ext_getD {a b : List Int} (hl : a.length = b.length) (h : ∀ i, i < a.length → a.getD i 0 = b.getD i 0) : a = b := by
  apply List.ext_getElem hl
  intro i h1 h2
  have := h i h1
  rw [List.getD_eq_getElem?_getD, List.getD_eq_getElem?_getD, List.getElem?_eq_getElem h1, List.getElem?_eq_getElem h2] at this
  exact this
theorem getD_set (l : List Int) (i j : Nat) (v : Int) (hi : i < l.length) : (l.set i v).getD j 0 = if j = i then v else l.getD j 0 := by
  rw [List.getD_eq_getElem?_getD, List.getD_eq_getElem?_getD, List.getElem?_set]
  by_cases e : i = j
  · subst e; rw [if_pos rfl, if_pos rfl, if_pos hi]; rfl
  · rw [if_neg e, if_neg (fun h => e h.symm)]
theorem rvl_zero (l : List Int) : rvl l 0 = l := list_ext_getD (rvl_length l 0) (fun i hi => by rw [rvl_length] at hi; rw [rvl_getD l 0 i hi, if_neg (by omega)])
theorem rvl_end {l : List Int} {i : Nat} (h : l.length ≤ 2 * i + 1) : rvl l i = l.reverse := list_ext_getD (by rw [rvl_length, List.length_reverse]) (fun p hp => by
  rw [rvl_length] at hp
  rw [rvl_getD l i p hp, List.getD_eq_getElem?_getD (l := l.reverse), List.getElem?_reverse hp, ← List.getD_eq_getElem?_getD]
  by_cases c : p < i ∨ l.length - 1 - p < i
  · rw [if_pos c]
  · rw [if_neg c, show l.length - 1 - p = p by omega])
theorem rvl_step {l : List Int} {i : Nat} (h : 2 * i + 1 < l.length) : ((rvl l i).set i ((rvl l i).getD (l.length - 1 - i) 0)).set (l.length - 1 - i) ((rvl l i).getD i 0) = rvl l (i + 1) := list_ext_getD (by rw [List.length_set, List.length_set, rvl_length, rvl_length]) (fun p hp => by
  rw [List.length_set, List.length_set, rvl_length] at hp
  rw [getD_set _ _ _ _ (by rw [List.length_set, rvl_length]; omega), getD_set _ _ _ _ (by rw [rvl_length]; omega), rvl_getD l i i (by omega), rvl_getD l i (l.length - 1 - i) (by omega), rvl_getD l i p hp, rvl_getD l (i + 1) p hp]
  by_cases c1 : p = l.length - 1 - i
  · rw [if_pos c1, if_neg (by omega), if_pos (by omega), c1, show l.length - 1 - (l.length - 1 - i) = i by omega]
  · rw [if_neg c1]
    by_cases c2 : p = i
    · rw [if_pos c2, if_neg (by omega), if_pos (by omega), c2]
    · rw [if_neg c2]
      by_cases c3 : p < i ∨ l.length - 1 - p < i
      · rw [if_pos c3, if_pos (by omega)]
      · rw [if_neg c3, if_neg (by omega)])
theorem slices_Reverse_byte_byte_ev {l : List Int} (hl : l.length < 4294967296) : Ev (fun k => slices_Reverse_byte_byte.f k l) l.reverse := by
  unfold slices_Reverse_byte_byte.f
  have key : ∀ (d i : Nat), l.length ≤ 2 * i + 1 + d → 2 * i ≤ l.length + 1 → Ev (fun k => slices_Reverse_byte_byte.l0 k (rvl l i) (i : Int) ((l.length : Int) - 1 - (i : Int))) l.reverse := by
    intro d
    induction d with
    | zero =>
      intro i h _
      refine Ev.step (fun k => slices_Reverse_byte_byte.l0.eq_2 ..) ?_
      simp -implicitDefEqProofs only [show ¬ (i : Int) < (l.length : Int) - 1 - (i : Int) by omega, if_false]
      rw [rvl_end (by omega)]
      exact Ev.now _
    | succ d ih =>
      intro i h h2
      by_cases c : l.length ≤ 2 * i + 1
      · refine Ev.step (fun k => slices_Reverse_byte_byte.l0.eq_2 ..) ?_
        simp -implicitDefEqProofs only [show ¬ (i : Int) < (l.length : Int) - 1 - (i : Int) by omega, if_false]
        rw [rvl_end c]
        exact Ev.now _
      · refine Ev.step (fun k => slices_Reverse_byte_byte.l0.eq_2 ..) ?_
        have ej : (l.length : Int) - 1 - (i : Int) = ((l.length - 1 - i : Nat) : Int) := by omega
        have e2 : wrap64 (((l.length - 1 - i : Nat) : Int) - 1) = (l.length : Int) - 1 - ((i + 1 : Nat) : Int) := by rw [wrap64_of (by omega) (by omega)]; omega
        simp -implicitDefEqProofs only [ej, show (i : Int) < ((l.length - 1 - i : Nat) : Int) by omega, if_true, show (0 : Int) ≤ ((l.length - 1 - i : Nat) : Int) by omega, rvl_length, show ((l.length - 1 - i : Nat) : Int) < (l.length : Int) by omega, show (0 : Int) ≤ (i : Int) by omega, show (i : Int) < (l.length : Int) by omega, rd_nat, Int.toNat_natCast, rvl_step (show 2 * i + 1 < l.length by omega), nat64_succ (show i < 9223372036854775807 by omega), e2]
        exact ih (i + 1) (by omega) (by omega)
  have := key l.length 0 (by omega) (by omega)
  rw [rvl_zero] at this
  rw [show wrap64 ((l.length : Int) - 1) = (l.length : Int) - 1 - ((0 : Nat) : Int) by rw [wrap64_of (by omega) (by omega)]; omega]
  exact this

/-- A number's decimal digits, the lowest first. -/
def decs (n : Nat) : List Int := if n = 0 then [] else ((48 + n % 10 : Nat) : Int) :: decs (n / 10)
termination_by n
decreasing_by omega
theorem decs_zero : decs 0 = [] := by rw [decs, if_pos rfl]
theorem decs_pos {n : Nat} (h : n ≠ 0) : decs n = ((48 + n % 10 : Nat) : Int) :: decs (n / 10) := by rw [decs, if_neg h]
/-- A number's digits, as they are told. -/
def txt (n : Nat) : ByteArray := if n = 0 then ⟨#[48]⟩ else strOfNums (decs n).reverse
theorem natural_Text_l0_ev : ∀ (q n : Nat) (o : List Int), n < 10 ^ q → (dgs n).length ≤ 2000 → o.length + q < 4294967296 → Ev (fun k => natural_Text.l0 k (dgs n) o) (strOfNums (o ++ decs n).reverse, 0)
  | q, n, o, h, hl, hq => by
    by_cases c0 : n = 0
    · subst c0
      refine Ev.step (fun k => natural_Text.l0.eq_2 ..) ?_
      rw [dgs_zero, decs_zero, List.append_nil]
      simp -implicitDefEqProofs only [List.length_nil, show ¬ ((0 : Nat) : Int) > 0 by decide, if_false]
      refine Ev.bind (slices_Reverse_byte_byte_ev (by omega)) ?_
      exact Ev.now _
    · cases q with
      | zero => exact absurd (show n = 0 by simpa using h) c0
      | succ q =>
        refine Ev.step (fun k => natural_Text.l0.eq_2 ..) ?_
        have hp : (dgs n).length > 0 := by rw [dgs_pos c0, List.length_cons]; omega
        simp -implicitDefEqProofs only [show ((dgs n).length : Int) > 0 by omega, if_true]
        refine Ev.bind (natural_divSmall_ev (Dg_dgs n) (by omega) (n := 10) (by decide) (by decide)) ?_
        have eb : IntKind.u64.wrap (48 + ((n % 10 : Nat) : Int)) % 256 = ((48 + n % 10 : Nat) : Int) := by
          rw [show (48 : Int) + ((n % 10 : Nat) : Int) = ((48 + n % 10 : Nat) : Int) by omega, wu64_nat (by omega)]; omega
        rw [nv_dgs]
        simp -implicitDefEqProofs only [show o.length < 140737488355328 by omega, if_true, eb]
        have ih := natural_Text_l0_ev q (n / 10) (o ++ [((48 + n % 10 : Nat) : Int)]) (by rw [Nat.pow_succ] at h; exact Nat.div_lt_of_lt_mul (by rw [Nat.mul_comm]; exact h)) (by
          have h1 := nv_lt (Dg_dgs n)
          rw [nv_dgs] at h1
          have h2 : (dgs (n / 10)).length ≤ (dgs n).length := dgs_length_lt (by omega)
          omega) (by rw [List.length_append, List.length_singleton]; omega)
        rw [List.append_assoc, List.singleton_append, ← decs_pos c0] at ih
        exact ih
theorem pow16_10 (k : Nat) : 65536 ^ k ≤ 10 ^ (5 * k) := by
  rw [Nat.pow_mul]
  exact Nat.pow_le_pow_left (by decide) k
theorem natural_Text_ev {n : Nat} (hl : (dgs n).length ≤ 2000) : Ev (fun k => natural_Text.f k (dgs n)) (txt n, 0) := by
  unfold natural_Text.f
  rw [natural_Good_eq, Nt_good (Nt_dgs n) (by omega)]
  simp -implicitDefEqProofs only [Option.bind_some, if_true, show ¬ ((dgs n).length : Int) > 2000 by omega, if_false]
  by_cases c : n = 0
  · subst c
    rw [dgs_zero]
    simp -implicitDefEqProofs only [List.length_nil, show ((0 : Nat) : Int) = 0 from rfl, if_true, txt]
    exact Ev.now _
  · have hp : (dgs n).length ≠ 0 := by rw [dgs_pos c, List.length_cons]; omega
    simp -implicitDefEqProofs only [show ¬ ((dgs n).length : Int) = 0 by omega, if_false, txt, c]
    have h1 := nv_lt (Dg_dgs n)
    rw [nv_dgs] at h1
    have h2 := pow16_10 (dgs n).length
    exact natural_Text_l0_ev (5 * (dgs n).length) n [] (by omega) hl (by simp; omega)
theorem natural_Text_no {l : List Int} (h : hk_good l = false) : Ev (fun k => natural_Text.f k l) (⟨#[]⟩, 10) := by
  unfold natural_Text.f
  rw [natural_Good_eq, h]
  simp -implicitDefEqProofs only [Option.bind_some, Bool.false_eq_true, if_false]
  exact Ev.now _

theorem natural_Of_l0_ev : ∀ (q n : Nat) (o : List Int), n < 65536 ^ q → n < 18446744073709551616 → o.length + q < 8589934592 → Ev (fun k => natural_Of.l0 k (n : Int) o) (o ++ dgs n)
  | 0, n, o, h, _, _ => by
    obtain rfl : n = 0 := by simpa using h
    refine Ev.step (fun k => natural_Of.l0.eq_2 ..) ?_
    simp -implicitDefEqProofs only [show ¬ ((0 : Nat) : Int) > 0 by decide, if_false]
    rw [dgs_zero, List.append_nil]
    exact Ev.now _
  | q + 1, n, o, h, h2, hl => by
    by_cases c0 : n = 0
    · subst c0
      refine Ev.step (fun k => natural_Of.l0.eq_2 ..) ?_
      simp -implicitDefEqProofs only [show ¬ ((0 : Nat) : Int) > 0 by decide, if_false]
      rw [dgs_zero, List.append_nil]
      exact Ev.now _
    · refine Ev.step (fun k => natural_Of.l0.eq_2 ..) ?_
      have ih := natural_Of_l0_ev q (n / 65536) (o ++ [((n % 65536 : Nat) : Int)]) (by rw [Nat.pow_succ] at h; exact Nat.div_lt_of_lt_mul (by rw [Nat.mul_comm]; exact h)) (by omega) (by rw [List.length_append, List.length_singleton]; omega)
      rw [List.append_assoc, List.singleton_append, ← dgs_pos c0] at ih
      simp -implicitDefEqProofs only [show (n : Int) > 0 by omega, if_true, show o.length < 17592186044416 by omega, tm16, td16, wu64_nat (show n / 65536 < 18446744073709551616 by omega)]
      exact ih
theorem natural_Of_ev {n : Nat} (h : n < 18446744073709551616) : Ev (fun k => natural_Of.f k (n : Int)) (dgs n) := natural_Of_l0_ev 4 n [] (by omega) h (by simp)

theorem gold_Of_eq {a : Int} (h : U a) : gold_Of.f a = some (un (cv a)) := by
  unfold gold_Of.f
  rw [un_cv]
  have := h.1; have := h.2
  by_cases c : a ≥ 18446744069414584321
  · rw [if_pos c, wu64]; congr 1; omega
  · rw [if_neg c]; congr 1; omega

theorem poly_Degree_l0 {l : List Int} (h : UL l) (hl : l.length < 4294967296) : ∀ i, i ≤ l.length → Ev (fun k => poly_Degree.l0 k l ((i : Int) - 1)) ((dg i (co l) : Int) - 1) := by
  intro i
  induction i with
  | zero =>
    intro _
    refine Ev.step (fun k => poly_Degree.l0.eq_2 ..) ?_
    simp -implicitDefEqProofs only [show ¬ (((0 : Nat) : Int) - 1 ≥ 0) by omega, if_false]
    exact Ev.now _
  | succ i ih =>
    intro hi
    refine Ev.step (fun k => poly_Degree.l0.eq_2 ..) ?_
    have c1 : (i : Int) ≥ 0 := by omega
    have c2 : (i : Int) < (l.length : Int) := by omega
    rw [show dg (i + 1) (co l) = if co l i = 0 then dg i (co l) else i + 1 from rfl]
    simp -implicitDefEqProofs only [down_at, c1, c2, if_true, gold_Of_eq (U_rd h _), Option.bind_some, cv_rd, down_next (show i < 9223372036854775807 by omega)]
    by_cases c : co l i = 0
    · rw [if_pos c, c, un_zero]
      simp -implicitDefEqProofs only [if_true]
      exact ih (by omega)
    · have c' : ¬ un (co l i) = 0 := fun h => c (un_eq_zero.1 h)
      rw [if_neg c, down_at]
      simp -implicitDefEqProofs only [c', if_false]
      exact Ev.now _
theorem poly_Degree_ev {l : List Int} (h : UL l) (hl : l.length < 4294967296) : Ev (fun k => poly_Degree.f k l) ((dg l.length (co l) : Int) - 1) := by
  unfold poly_Degree.f
  rw [down_next (show l.length < 9223372036854775807 by omega)]
  exact poly_Degree_l0 h hl _ (Nat.le_refl _)

theorem poly_Trim_ev {l : List Int} (h : UL l) (hl : l.length < 4294967296) : Ev (fun k => poly_Trim.f k l) (tr l.length (co l)) := by
  unfold poly_Trim.f
  refine Ev.bind (poly_Degree_ev h hl) ?_
  have hd := dg_le l.length (co l)
  have e : wrap64 ((dg l.length (co l) : Int) - 1 + 1) = (dg l.length (co l) : Int) := by rw [wrap64_of (by omega) (by omega)]; omega
  have c1 : (0 : Int) ≤ (dg l.length (co l) : Int) := by omega
  have c2 : (dg l.length (co l) : Int) ≤ (l.length : Int) := by omega
  unfold tr
  generalize dg l.length (co l) = d at *
  have hlen : (l.take d).length = d := by rw [List.length_take]; omega
  simp -implicitDefEqProofs only [e, c1, c2, if_true, Int.toNat_natCast, hlen]
  refine Ev_loop d (fun k i => poly_Trim.l0 k (tab i (co l)) (l.take d) (d : Int) (i : Int)) ?_ (fun i hi ih => ?_) 0 (Nat.zero_le _)
  · refine Ev.step (fun k => poly_Trim.l0.eq_2 ..) ?_
    simp -implicitDefEqProofs only [Int.lt_irrefl, if_false]
    exact Ev.now _
  · refine Ev.step (fun k => poly_Trim.l0.eq_2 ..) ?_
    have c3 : (i : Int) < (d : Int) := by omega
    have c4 : (0 : Int) ≤ (i : Int) := by omega
    have c5 : i < 17592186044416 := by omega
    simp -implicitDefEqProofs only [c3, c4, c5, hlen, tab_length, if_true, gold_Of_eq (U_rd (UL_take h d) _), Option.bind_some, cv_rd, co_take hi, ← tab_succ, nat64_succ (show i < 9223372036854775807 by omega)]
    exact ih

theorem conv_exponent_from {n : Nat} (hn : n ≤ 524288) : ∀ d j : Nat, j + d = 19 → ∃ e : Nat, e ≤ 19 ∧ n ≤ 2 ^ e ∧ Ev (fun k => conv_exponent.l0 k (n : Int) (j : Int)) (e : Int)
  | d, j, h => by
    have hu : IntKind.u64.wrap (j : Int) = (j : Int) := wu64_of ⟨by omega, by omega⟩
    have hs := shl_i64 (n := j) (by omega)
    have hp := two_pow_lt (n := j) (m := 19) (by omega)
    by_cases c : 2 ^ j < n
    · cases d with
      | zero =>
        obtain rfl : j = 19 := by omega
        omega
      | succ d =>
        obtain ⟨e, h1, h2, h3⟩ := conv_exponent_from hn d (j + 1) (by omega)
        refine ⟨e, h1, h2, ?_⟩
        refine Ev.step (fun k => conv_exponent.l0.eq_2 ..) ?_
        have c2 : ((2 ^ j : Nat) : Int) < (n : Int) := Int.ofNat_lt.2 c
        rw [hs, hu]
        simp -implicitDefEqProofs only [show (0 : Int) ≤ (j : Int) by omega, c2, if_true, nat64_succ (show j < 9223372036854775807 by omega)]
        exact h3
    · refine ⟨j, by omega, by omega, ?_⟩
      refine Ev.step (fun k => conv_exponent.l0.eq_2 ..) ?_
      have c2 : ¬ ((2 ^ j : Nat) : Int) < (n : Int) := fun h => c (Int.ofNat_lt.1 h)
      rw [hs, hu]
      simp -implicitDefEqProofs only [show (0 : Int) ≤ (j : Int) by omega, c2, if_true, if_false]
      exact Ev.now _
theorem conv_exponent_ev {n : Nat} (hn : n ≤ 524288) : ∃ e : Nat, e ≤ 19 ∧ n ≤ 2 ^ e ∧ Ev (fun k => conv_exponent.f k (n : Int)) (e : Int) := conv_exponent_from hn 19 0 (by omega)

theorem gold_Reduce_eq {hi lo : Int} (h : U hi) (h2 : U lo) : gold_Reduce.f hi lo = some (un (cv (hi * 18446744073709551616 + lo))) := by
  have e0 := h.1; have e1 := h.2; have e2 := h2.1; have e3 := h2.2
  unfold gold_Reduce.f
  rw [and_low h]
  simp only [wu64]
  have top : hi = 4294967296 * (hi / 4294967296) + hi % 4294967296 := by omega
  generalize hi / 4294967296 = t at *
  generalize hm : hi % 4294967296 = m at *
  have hm0 : 0 ≤ m := by omega
  have hm1 : m < 4294967296 := by omega
  have ht0 : 0 ≤ t := by omega
  have ht1 : t < 4294967296 := by omega
  have e : m * 4294967295 % 18446744073709551616 = m * 4294967295 := by omega
  rw [e]
  by_cases c1 : lo < t
  · rw [if_pos c1]
    have a1 : (lo - t) % 18446744073709551616 = lo - t + 18446744073709551616 := by omega
    rw [a1]
    have a2 : (lo - t + 18446744073709551616 - 4294967295) % 18446744073709551616 = lo - t + 18446744073709551616 - 4294967295 := by omega
    rw [a2]
    by_cases c2 : (lo - t + 18446744073709551616 - 4294967295 + m * 4294967295) % 18446744073709551616 < m * 4294967295
    · have c3 : (lo - t + 18446744073709551616 - 4294967295 + m * 4294967295) % 18446744073709551616 = lo - t - 4294967295 + m * 4294967295 := by omega
      have c4 : (lo - t - 4294967295 + m * 4294967295 + 4294967295) % 18446744073709551616 = lo - t + m * 4294967295 := by omega
      rw [if_pos c2, c3, c4, gold_Of_eq ⟨by omega, by omega⟩]
      simp only [Option.bind_some, Option.some.injEq, un_inj_iff]
      exact cv_of_eq (-(t * 4294967297 + m)) (by omega)
    · have c3 : (lo - t + 18446744073709551616 - 4294967295 + m * 4294967295) % 18446744073709551616 = lo - t + 18446744073709551616 - 4294967295 + m * 4294967295 := by omega
      rw [if_neg c2, c3, gold_Of_eq ⟨by omega, by omega⟩]
      simp only [Option.bind_some, Option.some.injEq, un_inj_iff]
      exact cv_of_eq (-(t * 4294967297 + m) + 1) (by omega)
  · rw [if_neg c1]
    have a1 : (lo - t) % 18446744073709551616 = lo - t := by omega
    rw [a1]
    by_cases c2 : (lo - t + m * 4294967295) % 18446744073709551616 < m * 4294967295
    · have c3 : (lo - t + m * 4294967295) % 18446744073709551616 = lo - t + m * 4294967295 - 18446744073709551616 := by omega
      have c4 : (lo - t + m * 4294967295 - 18446744073709551616 + 4294967295) % 18446744073709551616 = lo - t + m * 4294967295 - 18446744069414584321 := by omega
      rw [if_pos c2, c3, c4, gold_Of_eq ⟨by omega, by omega⟩]
      simp only [Option.bind_some, Option.some.injEq, un_inj_iff]
      exact cv_of_eq (-(t * 4294967297 + m) - 1) (by omega)
    · have c3 : (lo - t + m * 4294967295) % 18446744073709551616 = lo - t + m * 4294967295 := by omega
      rw [if_neg c2, c3, gold_Of_eq ⟨by omega, by omega⟩]
      simp only [Option.bind_some, Option.some.injEq, un_inj_iff]
      exact cv_of_eq (-(t * 4294967297 + m)) (by omega)

theorem mul64_arith (a b : Int) (ha : U a) (hb : U b) :
    IntKind.u64.wrap ((IntKind.u64.wrap ((IntKind.u64.wrap ((a / 4294967296) * (b / 4294967296))) + ((IntKind.u64.wrap ((IntKind.u64.wrap ((a / 4294967296) * (b % 4294967296))) + ((IntKind.u64.wrap ((a % 4294967296) * (b % 4294967296))) / 4294967296))) / 4294967296))) + ((IntKind.u64.wrap ((Go.bits .and .u64 (IntKind.u64.wrap ((IntKind.u64.wrap ((a / 4294967296) * (b % 4294967296))) + ((IntKind.u64.wrap ((a % 4294967296) * (b % 4294967296))) / 4294967296))) 4294967295) + (IntKind.u64.wrap ((a % 4294967296) * (b / 4294967296))))) / 4294967296)) = a * b / 18446744073709551616 := by
  rw [and_low (U_wrap _)]
  simp only [wu64]
  have a0 := ha.1; have a1 := ha.2; have b0 := hb.1; have b1 := hb.2
  have ea : a = 4294967296 * (a / 4294967296) + a % 4294967296 := by omega
  have eb : b = 4294967296 * (b / 4294967296) + b % 4294967296 := by omega
  have x0 : 0 ≤ a / 4294967296 := by omega
  have x1 : a / 4294967296 ≤ 4294967295 := by omega
  have y0 : 0 ≤ b / 4294967296 := by omega
  have y1 : b / 4294967296 ≤ 4294967295 := by omega
  have u0 : 0 ≤ a % 4294967296 := by omega
  have u1 : a % 4294967296 ≤ 4294967295 := by omega
  have v0 : 0 ≤ b % 4294967296 := by omega
  have v1 : b % 4294967296 ≤ 4294967295 := by omega
  generalize a / 4294967296 = x at *
  generalize b / 4294967296 = y at *
  generalize a % 4294967296 = u at *
  generalize b % 4294967296 = v at *
  have key : ∀ p q : Int, 0 ≤ p → p ≤ 4294967295 → 0 ≤ q → q ≤ 4294967295 → 0 ≤ p * q ∧ p * q ≤ 18446744065119617025 := by
    intro p q p0 p1 q0 q1
    refine ⟨Int.mul_nonneg p0 q0, ?_⟩
    have := Int.mul_le_mul p1 q1 q0 (by omega)
    omega
  have hxy := key x y x0 x1 y0 y1
  have hxv := key x v x0 x1 v0 v1
  have huv := key u v u0 u1 v0 v1
  have huy := key u y u0 u1 y0 y1
  have eab : a * b = 18446744073709551616 * (x * y) + 4294967296 * (x * v) + 4294967296 * (u * y) + u * v := by
    rw [ea, eb]; grind
  rw [eab]
  generalize x * y = xy at *
  generalize x * v = xv at *
  generalize u * v = uv at *
  generalize u * y = uy at *
  clear ea eb eab key
  rw [Int.emod_eq_of_lt hxy.1 (by omega), Int.emod_eq_of_lt hxv.1 (by omega), Int.emod_eq_of_lt huv.1 (by omega), Int.emod_eq_of_lt huy.1 (by omega)]
  rw [Int.emod_eq_of_lt (a := xv + uv / 4294967296) (by omega) (by omega)]
  omega
theorem bits_Mul64_eq {a b : Int} (ha : U a) (hb : U b) : bits_Mul64.f a b = some (a * b / 18446744073709551616, a * b % 18446744073709551616) := by
  unfold bits_Mul64.f
  rw [and_low ha, and_low hb, mul64_arith a b ha hb, wu64]

theorem wide_Mul_eq {a b : Int} (ha : U a) (hb : U b) : wide_Mul.f a b = some (a * b / 18446744073709551616, a * b % 18446744073709551616) := by
  unfold wide_Mul.f
  rw [bits_Mul64_eq ha hb]; rfl
theorem U_wide {a b : Int} (ha : U a) (hb : U b) : U (a * b / 18446744073709551616) ∧ U (a * b % 18446744073709551616) := by
  have h0 := Int.mul_nonneg ha.1 hb.1
  have h1 : a * b ≤ 18446744073709551615 * 18446744073709551615 := Int.mul_le_mul (by have := ha.2; omega) (by have := hb.2; omega) hb.1 (by omega)
  generalize a * b = c at *
  exact ⟨⟨by omega, by omega⟩, ⟨by omega, by omega⟩⟩

theorem gold_Mul_eq {a b : Int} (ha : U a) (hb : U b) : gold_Mul.f a b = some (un (cv a * cv b)) := by
  unfold gold_Mul.f
  rw [wide_Mul_eq ha hb]
  simp only [Option.bind_some]
  rw [gold_Reduce_eq (U_wide ha hb).1 (U_wide ha hb).2]
  simp only [Option.bind_some, ← cv_mul]
  congr 3
  omega

theorem twid_Scale_ev {l : List Int} (h : UL l) (hl : l.length < 4294967296) {a : Int} (ha : U a) : Ev (fun k => twid_Scale.f k l a) (tab l.length (fun i => co l i * cv a)) := by
  unfold twid_Scale.f
  have d1 : (0 : Int) ≤ (l.length : Int) := by omega
  have d2 : l.length ≤ 35184372088832 := by omega
  simp -implicitDefEqProofs only [d1, d2, if_true, Int.toNat_natCast, replicate_tab]
  have e0 : tab l.length (fun _ => (0 : F)) = tab l.length (fun j => if j < 0 then co l j * cv a else 0) := tab_congr (fun j hj => by rw [if_neg (by omega)])
  rw [e0]
  refine Ev_loop l.length (fun k i => twid_Scale.l0 k a (tab l.length (fun j => if j < i then co l j * cv a else 0)) l (l.length : Int) (i : Int)) ?_ (fun i hi ih => ?_) 0 (Nat.zero_le _)
  · refine Ev.step (fun k => twid_Scale.l0.eq_2 ..) ?_
    simp -implicitDefEqProofs only [Int.lt_irrefl, if_false]
    rw [tab_congr (g := fun i => co l i * cv a) (fun i hi => by rw [if_pos hi])]
    exact Ev.now _
  · refine Ev.step (fun k => twid_Scale.l0.eq_2 ..) ?_
    have c1 : (i : Int) < (l.length : Int) := by omega
    have c2 : (0 : Int) ≤ (i : Int) := by omega
    simp -implicitDefEqProofs only [c1, c2, tab_length, if_true, gold_Mul_eq (U_rd h _) ha, Option.bind_some, cv_rd, Int.toNat_natCast, tab_set, nat64_succ (show i < 9223372036854775807 by omega)]
    have e : tab l.length (fun j => if j = i then co l i * cv a else if j < i then co l j * cv a else 0) = tab l.length (fun j => if j < i + 1 then co l j * cv a else 0) := by
      apply tab_congr
      intro j hj
      by_cases hji : j = i
      · subst hji; rw [if_pos rfl, if_pos (by omega)]
      · rw [if_neg hji]
        by_cases hh : j < i
        · rw [if_pos hh, if_pos (by omega)]
        · rw [if_neg hh, if_neg (by omega)]
    rw [e]
    exact ih

theorem bits_Add64_eq {a b c : Int} (ha : 0 ≤ a) (hb : 0 ≤ b) (h0 : 0 ≤ c) (h1 : c ≤ 1) : bits_Add64.f a b c = some ((a + b + c) % 18446744073709551616, (a + b + c) / 18446744073709551616) := by
  unfold bits_Add64.f
  rw [if_pos ha, if_pos hb, if_pos h0, if_pos h1]

theorem wide_Add_eq {a b c d : Int} (ha : U a) (hb : U b) (hc : U c) (hd : U d) :
    wide_Add.f a b c d = some ((a * 18446744073709551616 + b + (c * 18446744073709551616 + d)) / 18446744073709551616 % 18446744073709551616, (a * 18446744073709551616 + b + (c * 18446744073709551616 + d)) % 18446744073709551616, (a * 18446744073709551616 + b + (c * 18446744073709551616 + d)) / 340282366920938463463374607431768211456) := by
  have := ha.1; have := ha.2; have := hb.1; have := hb.2; have := hc.1; have := hc.2; have := hd.1; have := hd.2
  unfold wide_Add.f
  rw [bits_Add64_eq hb.1 hd.1 (by omega) (by omega)]
  simp only [Option.bind_some]
  rw [bits_Add64_eq ha.1 hc.1 (by omega) (by omega)]
  simp only [Option.bind_some, Option.some.injEq, Prod.mk.injEq]
  exact ⟨by omega, by omega, by omega⟩

theorem gold_Add_eq {a b : Int} (ha : U a) (hb : U b) : gold_Add.f a b = some (un (cv a + cv b)) := by
  unfold gold_Add.f
  rw [gold_Of_eq ha, gold_Of_eq hb]
  simp only [Option.bind_some]
  rw [wide_Add_eq ⟨by omega, by omega⟩ (U_un _) ⟨by omega, by omega⟩ (U_un _)]
  simp only [Option.bind_some]
  have h0 := un_lo (cv a); have h1 := un_hi (cv a); have h2 := un_lo (cv b); have h3 := un_hi (cv b)
  rw [gold_Reduce_eq ⟨by omega, by omega⟩ ⟨by omega, by omega⟩]
  simp only [Option.bind_some]
  have e : cv a + cv b = cv (un (cv a) + un (cv b)) := by rw [cv_add, cv_un, cv_un]
  rw [e]
  congr 2
  exact cv_of_eq 0 (by omega)

theorem gold_Neg_eq {a : Int} (h : U a) : gold_Neg.f a = some (un (- cv a)) := by
  unfold gold_Neg.f
  rw [gold_Of_eq h]
  simp only [Option.bind_some, un_neg, un_cv]
  by_cases c : a % 18446744069414584321 = 0
  · rw [if_pos c, c]; rfl
  · rw [if_neg c, wu64]; congr 1; omega

theorem gold_Sub_eq {a b : Int} (ha : U a) (hb : U b) : gold_Sub.f a b = some (un (cv a - cv b)) := by
  unfold gold_Sub.f
  rw [gold_Neg_eq hb]
  simp only [Option.bind_some]
  rw [gold_Add_eq ha (U_un _)]
  simp only [Option.bind_some, cv_un]
  congr 2; grind

theorem hk_crossO_eq {a b c d u : Int} (ha : U a) (hb : U b) (hc : U c) (hd : U d) (hu : U u) :
    hk_crossO a b c d u = some (un ((cv a + cv c) + (cv b + cv d)), un ((cv a - cv c) + cv u * (cv b - cv d)), un ((cv a + cv c) - (cv b + cv d)), un ((cv a - cv c) - cv u * (cv b - cv d))) := by
  unfold hk_crossO
  rw [gold_Add_eq ha hc, Option.bind_some, gold_Sub_eq ha hc, Option.bind_some, gold_Add_eq hb hd, Option.bind_some, gold_Sub_eq hb hd, Option.bind_some, gold_Mul_eq hu (U_un _), Option.bind_some, gold_Add_eq (U_un _) (U_un _), Option.bind_some, gold_Add_eq (U_un _) (U_un _), Option.bind_some, gold_Sub_eq (U_un _) (U_un _), Option.bind_some, gold_Sub_eq (U_un _) (U_un _), Option.bind_some]
  simp -implicitDefEqProofs only [cv_un]

/-- One crossing: what stands behind it. -/
theorem hk_qstep_eq {N n s i q : Nat} (hN : N = n * s) (h4 : n = 4 * (n / 4)) (hi : i < n / 4) (hq : q < s) {W u : F} (hu : u * u = -1) (pf : Nat → F) (pn : Nat) (hpn : N ≤ pn) (hpf : ∀ j, pf (j * s) = W ^ j) (x g0 : Nat → F) :
    hk_qstep (tab pn pf) (tab N x) (un u) n s s i q (tab N (q4 s (qx s (n / 4) W u x) g0 i q)) = some (tab N (q4 s (qx s (n / 4) W u x) g0 i (q + 1))) := by
  obtain ⟨h, hh⟩ : ∃ h, h = n / 4 := ⟨_, rfl⟩
  rw [← hh] at h4 hi ⊢
  have hs : 0 < s := by omega
  have lt : ∀ c, c < 4 → q + s * (i + c * h) < N := fun c hc => by
    have h1 : i + c * h + 1 ≤ 4 * h := by
      have : c * h ≤ 3 * h := Nat.mul_le_mul_right h (by omega)
      omega
    have h2 : s * (i + c * h + 1) ≤ s * (4 * h) := Nat.mul_le_mul_left s h1
    rw [hN, h4, Nat.mul_comm (4 * h) s]
    rw [Nat.mul_add s, Nat.mul_one] at h2
    omega
  have lp : ∀ c, c < 4 → c * i * s < pn := fun c hc => by
    have h1 : c * i ≤ 3 * i := Nat.mul_le_mul_right i (by omega)
    have h2 : c * i * s < 4 * h * s := Nat.mul_lt_mul_of_pos_right (by omega) hs
    rw [hN, h4] at hpn
    omega
  have cr := hk_crossO_eq (U_un (x (q + s * (i + 0 * h)))) (U_un (x (q + s * (i + 1 * h)))) (U_un (x (q + s * (i + 2 * h)))) (U_un (x (q + s * (i + 3 * h)))) (U_un u)
  simp -implicitDefEqProofs only [cv_un] at cr
  obtain ⟨z0, z1, z2, z3⟩ := q_cross (x (q + s * (i + 0 * h))) (x (q + s * (i + 1 * h))) (x (q + s * (i + 2 * h))) (x (q + s * (i + 3 * h))) u hu
  rw [z0, z1, z2, z3] at cr
  have tt : ∀ t, t < 4 → qx s h W u x (q + s * 4 * i + t * s) = (x (q + s * (i + 0 * h)) + x (q + s * (i + 1 * h)) * u ^ (1 * t) + x (q + s * (i + 2 * h)) * u ^ (2 * t) + x (q + s * (i + 3 * h)) * u ^ (3 * t)) * W ^ (t * i) := fun t ht => by
    rw [qx_at h W u x hq ht, Nat.zero_mul, Nat.one_mul h, Nat.add_zero]
  have m1 := tt 1 (by omega)
  have m2 := tt 2 (by omega)
  have m3 := tt 3 (by omega)
  have m0 := tt 0 (by omega)
  rw [show q + s * 4 * i + 0 * s = q + s * 4 * i by omega, Nat.zero_mul i, k1 W, k2] at m0
  rw [Nat.one_mul s] at m1
  have w1 : rd (tab pn pf) ((i * s : Nat) : Int) = un (W ^ (1 * i)) := by
    have := lp 1 (by omega)
    rw [Nat.one_mul] at this ⊢
    rw [rd_tab this, hpf]
  have w2 : rd (tab pn pf) ((2 * i * s : Nat) : Int) = un (W ^ (2 * i)) := by rw [rd_tab (lp 2 (by omega)), hpf]
  have w3 : rd (tab pn pf) ((3 * i * s : Nat) : Int) = un (W ^ (3 * i)) := by rw [rd_tab (lp 3 (by omega)), hpf]
  unfold hk_qstep
  rw [← hh, rd_tab (lt 0 (by omega)), rd_tab (lt 1 (by omega)), rd_tab (lt 2 (by omega)), rd_tab (lt 3 (by omega)), cr, w1, w2, w3, Option.bind_some]
  simp -implicitDefEqProofs only []
  rw [gold_Mul_eq (U_un _) (U_un _), Option.bind_some, gold_Mul_eq (U_un _) (U_un _), Option.bind_some, gold_Mul_eq (U_un _) (U_un _), Option.bind_some]
  simp -implicitDefEqProofs only [cv_un]
  rw [← m0, ← m1, ← m2, ← m3]
  congr 1
  exact q4_step hq (qx s h W u x) g0
where
  k1 {R : Nat} [NeZero R] (W : Fin R) : W ^ 0 = 1 := by grind
  k2 {R : Nat} [NeZero R] (a : Fin R) : a * 1 = a := by grind
theorem hk_qin_eq {N n s i : Nat} (hN : N = n * s) (h4 : n = 4 * (n / 4)) (hi : i < n / 4) {W u : F} (hu : u * u = -1) (pf : Nat → F) (pn : Nat) (hpn : N ≤ pn) (hpf : ∀ j, pf (j * s) = W ^ j) (x g0 : Nat → F) :
    ∀ q, q ≤ s → hk_qin (tab pn pf) (tab N x) (un u) n s s i (tab N (q4 s (qx s (n / 4) W u x) g0 i 0)) q = some (tab N (q4 s (qx s (n / 4) W u x) g0 i q))
  | 0, _ => rfl
  | q + 1, hq => by
    unfold hk_qin
    rw [hk_qin_eq hN h4 hi hu pf pn hpn hpf x g0 q (by omega), Option.bind_some]
    exact hk_qstep_eq hN h4 hi (by omega) hu pf pn hpn hpf x g0
theorem hk_qout_at {N n s : Nat} (hN : N = n * s) (hs : 0 < s) (h4 : n = 4 * (n / 4)) {W u : F} (hu : u * u = -1) (pf : Nat → F) (pn : Nat) (hpn : N ≤ pn) (hpf : ∀ j, pf (j * s) = W ^ j) (x g0 : Nat → F) :
    ∀ i, i ≤ n / 4 → hk_qout (tab pn pf) (tab N x) (un u) n s s (tab N g0) i = some (tab N (q4 s (qx s (n / 4) W u x) g0 i 0))
  | 0, _ => by
    unfold hk_qout
    exact congrArg some (tab_congr (fun p _ => (q4_zero s _ g0 p).symm))
  | i + 1, hi => by
    unfold hk_qout
    rw [hk_qout_at hN hs h4 hu pf pn hpn hpf x g0 i (by omega), Option.bind_some, hk_qin_eq hN h4 (by omega) hu pf pn hpn hpf x g0 s (Nat.le_refl _)]
    exact congrArg some (tab_congr (fun p _ => q4_next hs _ g0 i p))
theorem hk_qout_eq {N n s : Nat} (hN : N = n * s) (hs : 0 < s) (h4 : n = 4 * (n / 4)) {W u : F} (hu : u * u = -1) (pf : Nat → F) (pn : Nat) (hpn : N ≤ pn) (hpf : ∀ j, pf (j * s) = W ^ j) (x g0 : Nat → F) :
    hk_qout (tab pn pf) (tab N x) (un u) n s s (tab N g0) (n / 4) = some (tab N (qx s (n / 4) W u x)) := by
  rw [hk_qout_at hN hs h4 hu pf pn hpn hpf x g0 (n / 4) (Nat.le_refl _)]
  exact congrArg some (tab_congr (fun p hp => q4_end hs _ g0 (by rw [← h4, ← hN]; exact hp)))

/-- A last pass's target while the pass is at place q. -/
def h4v (s : Nat) (x g0 : Nat → F) (q p : Nat) : F := if p < q then x p + x (p + s) else if s ≤ p ∧ p < s + q then x (p - s) - x p else g0 p
theorem hk_hin_eq (s : Nat) (x g0 : Nat → F) : ∀ q, q ≤ s → hk_hin (tab (2 * s) x) s (tab (2 * s) g0) q = some (tab (2 * s) (h4v s x g0 q))
  | 0, _ => by
    unfold hk_hin
    refine congrArg some (tab_congr (fun p _ => ?_))
    unfold h4v
    rw [if_neg (by omega), if_neg (by omega)]
  | q + 1, hq => by
    unfold hk_hin
    rw [hk_hin_eq s x g0 q (by omega), Option.bind_some]
    unfold hk_hstep
    rw [rd_tab (show q < 2 * s by omega), rd_tab (show q + s < 2 * s by omega), gold_Add_eq (U_un _) (U_un _), Option.bind_some, gold_Sub_eq (U_un _) (U_un _), Option.bind_some, cv_un, cv_un, tab_set, tab_set]
    refine congrArg some (tab_congr (fun p _ => ?_))
    unfold h4v
    by_cases c1 : p = q + s
    · rw [if_pos c1, if_neg (by omega), if_pos (by omega), c1, Nat.add_sub_cancel]
    · rw [if_neg c1]
      by_cases c2 : p = q
      · rw [if_pos c2, if_pos (by omega), c2]
      · rw [if_neg c2]
        by_cases c3 : p < q
        · rw [if_pos c3, if_pos (by omega)]
        · rw [if_neg c3, if_neg (show ¬ p < q + 1 by omega)]
          by_cases c4 : s ≤ p ∧ p < s + q
          · rw [if_pos c4, if_pos (by omega)]
          · rw [if_neg c4, if_neg (by omega)]

theorem hk_k4s_eq {k : Nat} (hk : k ≤ 20) {d : Int} (hd : d = 0 ∨ d = 1) (x : Nat → F) : ∀ j, 2 * j ≤ k → ∃ g0 : Nat → F,
    hk_k4s (tab (2 ^ k) (fun i => dr k d ^ i)) (un (dr 2 d)) k (tab (2 ^ k) x) j = some (tab (2 ^ k) (qv k (dr k d) (dr 2 d) x j), tab (2 ^ k) g0)
  | 0, _ => ⟨fun _ => 0, by unfold hk_k4s; rw [tab_length, replicate_tab]; rfl⟩
  | j + 1, hj => by
    obtain ⟨g0, e⟩ := hk_k4s_eq hk hd x j (by omega)
    refine ⟨qv k (dr k d) (dr 2 d) x j, ?_⟩
    unfold hk_k4s
    rw [e, Option.bind_some]
    simp -implicitDefEqProofs only [tab_length]
    have hs : 0 < 4 ^ j := Nat.pow_pos (by omega)
    have hn : 0 < 2 ^ (k - 2 * j) := Nat.two_pow_pos _
    have hN : 2 ^ k = 2 ^ (k - 2 * j) * 4 ^ j := by rw [four_pow, ← Nat.pow_add]; congr 1; omega
    have hst : 2 ^ k / 2 ^ (k - 2 * j) = 4 ^ j := by rw [hN, Nat.mul_div_cancel_left _ hn]
    have h4 : 2 ^ (k - 2 * j) = 4 * (2 ^ (k - 2 * j) / 4) := by
      rw [two_quarter (k := k) (j := j) hj, Nat.mul_div_cancel_left _ (by omega)]
    rw [hst, hk_qout_eq hN hs h4 (dr_two_sq hd) (fun i => dr k d ^ i) (2 ^ k) (Nat.le_refl _) (W := dr k d ^ 4 ^ j) (fun i => by rw [Nat.mul_comm, pow_mul'])]
    rfl
theorem hk_k4r_eq {k : Nat} (hk : k ≤ 20) {d : Int} (hd : d = 0 ∨ d = 1) (x : Nat → F) :
    hk_k4r (tab (2 ^ k) (fun i => dr k d ^ i)) (un (dr 2 d)) k (tab (2 ^ k) x) = some (tab (2 ^ k) (fun p => dft (2 ^ k) (dr k d) x p)) := by
  have key : ∀ q, q < 4 ^ (k / 2) → ∀ p, dft (2 ^ k) (dr k d) x (q + 4 ^ (k / 2) * p) = Sm (2 ^ (k - 2 * (k / 2))) (fun m => qv k (dr k d) (dr 2 d) x (k / 2) (q + 4 ^ (k / 2) * m) * (dr k d ^ 4 ^ (k / 2)) ^ (m * p)) := fun q hq p => by
    by_cases h2 : 2 ≤ k
    · rw [← qv_sum (dr k d) (dr 2 d) (dr_drop (by omega) h2 hd) (u4_of (dr_two_sq hd)) x (k / 2) (by omega) q hq p]
      unfold dft
      exact Sm_congr (fun m _ => by rw [← pow_mul', Nat.mul_comm m])
    · have e : k / 2 = 0 := by omega
      rw [e] at hq ⊢
      obtain rfl : q = 0 := by rw [Nat.pow_zero] at hq; omega
      unfold dft
      refine Sm_congr (fun m _ => ?_)
      show x m * (dr k d ^ (0 + 1 * p)) ^ m = x (0 + 1 * m) * (dr k d ^ 1) ^ (m * p)
      rw [Nat.zero_add, Nat.zero_add, Nat.one_mul, Nat.one_mul, k1 (dr k d), ← pow_mul', Nat.mul_comm m]
  obtain ⟨g0, e⟩ := hk_k4s_eq hk hd x (k / 2) (by omega)
  unfold hk_k4r
  rw [e, Option.bind_some]
  have hs : 0 < 4 ^ (k / 2) := Nat.pow_pos (by omega)
  rcases Nat.mod_two_eq_zero_or_one k with h0 | h1
  · rw [if_neg (by omega)]
    have hN : 2 ^ k = 4 ^ (k / 2) := by rw [four_pow]; congr 1; omega
    refine congrArg some (tab_congr (fun p hp => ?_))
    have := key p (by omega) 0
    rw [Nat.mul_zero, Nat.add_zero, show k - 2 * (k / 2) = 0 by omega] at this
    rw [this]
    show _ = 0 + qv k (dr k d) (dr 2 d) x (k / 2) (p + 4 ^ (k / 2) * 0) * (dr k d ^ 4 ^ (k / 2)) ^ (0 * 0)
    rw [Nat.mul_zero, Nat.add_zero, Nat.mul_zero]
    exact k2 _ _
  · rw [if_pos h1]
    have hN : 2 ^ k = 2 * 4 ^ (k / 2) := by
      rw [four_pow, show 2 * 2 ^ (2 * (k / 2)) = 2 ^ (2 * (k / 2) + 1) by rw [Nat.pow_succ]; omega]; congr 1; omega
    have hw : dr k d ^ 4 ^ (k / 2) = -1 := by
      rw [four_pow, show 2 * (k / 2) = k - 1 by omega]
      exact dr_half4 (by omega) (by omega) hd
    rw [hw] at key
    rw [show k - 2 * (k / 2) = 1 by omega] at key
    generalize 4 ^ (k / 2) = s at *
    rw [hN, hk_hin_eq s _ g0 s (Nat.le_refl _), ← hN]
    refine congrArg some (tab_congr (fun p hp => ?_))
    unfold h4v
    by_cases c : p < s
    · have := key p c 0
      rw [Nat.mul_zero, Nat.add_zero] at this
      rw [if_pos c, this]
      show _ = 0 + qv k (dr k d) (dr 2 d) x (k / 2) (p + s * 0) * (-1) ^ (0 * 0) + qv k (dr k d) (dr 2 d) x (k / 2) (p + s * 1) * (-1) ^ (1 * 0)
      rw [Nat.mul_zero, Nat.add_zero, Nat.mul_one, Nat.mul_zero]
      exact k3 _ _
    · have := key (p - s) (by omega) 1
      rw [Nat.mul_one, show p - s + s = p by omega] at this
      rw [if_neg c, if_pos (by omega), this]
      show _ = 0 + qv k (dr k d) (dr 2 d) x (k / 2) (p - s + s * 0) * (-1) ^ (0 * 1) + qv k (dr k d) (dr 2 d) x (k / 2) (p - s + s * 1) * (-1) ^ (1 * 1)
      rw [Nat.mul_zero, Nat.add_zero, Nat.mul_one s, show p - s + s = p by omega, Nat.zero_mul, Nat.mul_one]
      exact k4 _ _
where
  k1 {R : Nat} [NeZero R] (w : Fin R) : w ^ 1 = w := by grind
  k2 {R : Nat} [NeZero R] (a w : Fin R) : a = 0 + a * w ^ 0 := by grind
  k3 {R : Nat} [NeZero R] (a b : Fin R) : a + b = 0 + a * (-1) ^ 0 + b * (-1) ^ 0 := by grind
  k4 {R : Nat} [NeZero R] (a b : Fin R) : a - b = 0 + a * (-1) ^ 0 + b * (-1) ^ 1 := by grind

theorem scale_one {k : Nat} {l : List Int} (hl : l.length = 2 ^ k) : tab l.length (fun i => co l i * cv 1) = tab (2 ^ k) (co l) := by
  rw [hl]
  exact tab_congr (fun i _ => by rw [cv_one]; exact kk _)
where kk {R : Nat} [NeZero R] (a : Fin R) : a * 1 = a := by grind
theorem gold_Pow_l0_ev : ∀ (m : Nat) (n : Nat) (x y : F), n < 2 ^ m → n < 18446744073709551616 → Ev (fun k => gold_Pow.l0 k (n : Int) (un x) (un y)) (un (x * y ^ n))
  | 0, n, x, y, h, _ => by
    obtain rfl : n = 0 := by simpa using h
    refine Ev.step (f := fun _ => some (un x)) (fun k => ?_) ?_
    · simp only [gold_Pow.l0]; rw [if_neg (by omega)]
    · have : x * y ^ 0 = x := by grind
      rw [this]; exact Ev.now _
  | m + 1, n, x, y, h, hn => by
    have hm : n / 2 < 2 ^ m := by rw [Nat.pow_succ] at h; omega
    have e2 : ((n : Int) / 2) = ((n / 2 : Nat) : Int) := by omega
    by_cases h0 : n = 0
    · subst h0
      refine Ev.step (f := fun _ => some (un x)) (fun k => ?_) ?_
      · simp only [gold_Pow.l0]; rw [if_neg (by omega)]
      · have : x * y ^ 0 = x := by grind
        rw [this]; exact Ev.now _
    · have hU : U (n : Int) := ⟨by omega, by omega⟩
      by_cases h1 : n % 2 = 1
      · refine Ev.step (f := fun k => gold_Pow.l0 k ((n / 2 : Nat) : Int) (un (x * y)) (un (y * y))) (fun k => ?_) ?_
        · simp only [gold_Pow.l0]
          rw [if_pos (by omega), and_one hU, if_pos (by omega), gold_Mul_eq (U_un _) (U_un _), gold_Mul_eq (U_un _) (U_un _), e2]
          simp only [Option.bind_some, cv_un]
        · have ih := gold_Pow_l0_ev m (n / 2) (x * y) (y * y) hm (by omega)
          have e : x * y * (y * y) ^ (n / 2) = x * y ^ n := by
            have : n = 2 * (n / 2) + 1 := by omega
            rw [show y * y = y ^ 2 by grind, ← pow_mul']
            rw [show x * y * y ^ (2 * (n / 2)) = x * y ^ (2 * (n / 2) + 1) by grind, ← this]
          rw [e] at ih; exact ih
      · refine Ev.step (f := fun k => gold_Pow.l0 k ((n / 2 : Nat) : Int) (un x) (un (y * y))) (fun k => ?_) ?_
        · simp only [gold_Pow.l0]
          rw [if_pos (by omega), and_one hU, if_neg (by omega), gold_Mul_eq (U_un _) (U_un _), e2]
          simp only [Option.bind_some, cv_un]
        · have ih := gold_Pow_l0_ev m (n / 2) x (y * y) hm (by omega)
          have e : x * (y * y) ^ (n / 2) = x * y ^ n := by
            have : n = 2 * (n / 2) := by omega
            rw [show y * y = y ^ 2 by grind, ← pow_mul', ← this]
          rw [e] at ih; exact ih
theorem gold_Pow_ev {a n : Int} (ha : U a) (hn : U n) : Ev (fun k => gold_Pow.f k a n) (un (cv a ^ n.toNat)) := by
  have h := gold_Pow_l0_ev 64 n.toNat 1 (cv a) (by have := hn.2; omega) (by have := hn.2; omega)
  rw [un_one, Int.toNat_of_nonneg hn.1] at h
  have e : 1 * cv a ^ n.toNat = cv a ^ n.toNat := by grind
  rw [e] at h
  refine Ev.congr (fun k => ?_) h
  unfold gold_Pow.f
  rw [gold_Of_eq ha]; rfl

def erz (x : F) : Int := if x = 0 then 13 else 0
theorem erz_ne {x : F} (h : x ≠ 0) : erz x = 0 := if_neg h
theorem erz_zero : erz 0 = 13 := if_pos rfl
theorem gold_Inv_ev {a : Int} (h : U a) : Ev (fun k => gold_Inv.f k a) (un (inv (cv a)), erz (cv a)) := by
  unfold gold_Inv.f
  rw [gold_Of_eq h]
  simp -implicitDefEqProofs only [Option.bind_some]
  by_cases c : cv a = 0
  · have c' : un (cv a) = 0 := un_eq_zero.2 c
    simp -implicitDefEqProofs only [c', if_true]
    rw [c, inv_zero, erz_zero, un_zero]; exact Ev.now _
  · have c' : ¬ un (cv a) = 0 := fun h => c (un_eq_zero.1 h)
    simp -implicitDefEqProofs only [c', if_false, erz_ne c]
    refine Ev.bind (gold_Pow_ev h ⟨by omega, by omega⟩) ?_
    exact Ev.now _

theorem twid_Share_ev {k : Nat} (hk : k ≤ 32) : Ev (fun n => twid_Share.f n (k : Int)) (un (sh k), 0) := by
  unfold twid_Share.f
  have c : (0 : Int) ≤ IntKind.u64.wrap (k : Int) := (U_wrap _).1
  simp -implicitDefEqProofs only [show ¬ (k : Int) < 0 by omega, show ¬ (k : Int) > 32 by omega, if_false, c, if_true, shl_u64 (show k ≤ 63 by omega)]
  have h := gold_Inv_ev (U_two_pow (n := k) (by omega))
  rw [erz_ne (two_pow_ne hk)] at h
  refine Ev.bind h ?_
  exact Ev.now _
theorem root_good_yes {a : Int} (h0 : 0 ≤ a) (h1 : a ≤ 32) : root_good.f a = some true := by
  unfold root_good.f; rw [if_pos h0, decide_eq_true h1]
theorem shr_word {k : Nat} (hk : k ≤ 32) : shr .u64 18446744069414584320 (IntKind.u64.wrap (k : Int)) = ((18446744069414584320 / 2 ^ k : Nat) : Int) := by
  unfold shr
  rw [wu64_of ⟨by omega, by omega⟩, Int.toNat_natCast, Nat.min_eq_left (by rw [show IntKind.u64.bits = 64 from rfl]; omega)]
  rw [Int.natCast_ediv]; congr 1
theorem root_root_ev {k : Nat} (hk : k ≤ 32) : Ev (fun n => root_root.f n (k : Int)) (un (rt k)) := by
  unfold root_root.f
  have c : (0 : Int) ≤ IntKind.u64.wrap (k : Int) := (U_wrap _).1
  have hp : 18446744069414584320 / 2 ^ k ≤ 18446744069414584320 := Nat.div_le_self _ _
  simp -implicitDefEqProofs only [c, if_true, shr_word hk]
  have hu : U ((18446744069414584320 / 2 ^ k : Nat) : Int) := by
    generalize 18446744069414584320 / 2 ^ k = q at *
    exact ⟨by omega, by omega⟩
  refine Ev.bind (gold_Pow_ev ⟨by omega, by omega⟩ hu) ?_
  rw [Int.toNat_natCast]
  exact Ev.now _

theorem root_Root_ev {k : Nat} (hk : k ≤ 32) : Ev (fun n => root_Root.f n (k : Int)) (un (rt k), 0) := by
  unfold root_Root.f
  rw [root_good_yes (by omega) (by omega)]
  simp -implicitDefEqProofs only [Option.bind_some, if_true]
  exact Ev.bind (root_root_ev hk) (Ev.now _)
theorem root_Back_ev {k : Nat} (hk : k ≤ 32) : Ev (fun n => root_Back.f n (k : Int)) (un (inv (rt k)), 0) := by
  unfold root_Back.f
  rw [root_good_yes (by omega) (by omega)]
  simp -implicitDefEqProofs only [Option.bind_some, if_true]
  refine Ev.bind (root_root_ev hk) ?_
  have h := gold_Inv_ev (U_un (rt k))
  rw [cv_un, erz_ne (rt_ne_zero k)] at h
  refine Ev.bind h ?_
  exact Ev.now _
theorem twid_Root_ev {k : Nat} (hk : k ≤ 32) {d : Int} (hd : d = 0 ∨ d = 1) : Ev (fun n => twid_Root.f n (k : Int) d) (un (dr k d), 0) := by
  unfold twid_Root.f
  simp -implicitDefEqProofs only [show ¬ (k : Int) < 0 by omega, if_false, decide_eq_false (show ¬ (k : Int) > 32 by omega)]
  refine Ev.step (fun n => twid_Root.j0.eq_2 ..) ?_
  rcases hd with rfl | rfl
  · simp -implicitDefEqProofs only [show ¬ (false = true) by decide, if_false, if_true]
    refine Ev.bind (root_Root_ev hk) ?_
    rw [dr_fwd]; exact Ev.now _
  · simp -implicitDefEqProofs only [show ¬ (false = true) by decide, if_false, if_true, show ¬ (1 : Int) = 0 by omega]
    refine Ev.bind (root_Back_ev hk) ?_
    rw [dr_inv]; exact Ev.now _
theorem root_Powers_ev {w : Int} (hw : U w) {n : Nat} (hn : n ≤ 1048576) : Ev (fun k => root_Powers.f k w (n : Int)) (tab n (fun i => cv w ^ i), 0) := by
  unfold root_Powers.f
  have c1 : ¬ ((n : Int) < 0) := by omega
  have c2 : decide ((n : Int) > 1048576) = false := decide_eq_false (by omega)
  simp -implicitDefEqProofs only [c1, c2, if_false]
  refine Ev.step (fun k => root_Powers.j0.eq_2 ..) ?_
  have c3 : (0 : Int) ≤ (n : Int) := by omega
  have c4 : n ≤ 35184372088832 := by omega
  simp -implicitDefEqProofs only [c3, c4, Int.toNat_natCast, if_true, if_false, show ¬ (false = true) by decide, Option.bind_some, replicate_tab, tab_length]
  have e0 : tab n (fun _ => (0 : F)) = tab n (fun j => if j < 0 then cv w ^ j else 0) := tab_congr (fun j hj => by rw [if_neg (by omega)])
  have e1 : (1 : Int) = un (cv w ^ 0) := by rw [show cv w ^ 0 = 1 by grind, un_one]
  rw [e0, e1]
  refine Ev_loop n (fun k i => root_Powers.l0 k w (tab n (fun j => if j < i then cv w ^ j else 0)) (un (cv w ^ i)) (n : Int) (i : Int)) ?_ (fun i hi ih => ?_) 0 (Nat.zero_le _)
  · refine Ev.step (fun k => root_Powers.l0.eq_2 ..) ?_
    simp -implicitDefEqProofs only [Int.lt_irrefl, if_false]
    have e : tab n (fun j => if j < n then cv w ^ j else 0) = tab n (fun i => cv w ^ i) := tab_congr (fun j hj => by rw [if_pos hj])
    rw [e]
    exact Ev.now _
  · refine Ev.step (fun k => root_Powers.l0.eq_2 ..) ?_
    have c1 : (i : Int) < (n : Int) := by omega
    have c2 : (0 : Int) ≤ (i : Int) := by omega
    have es : cv w ^ i * cv w = cv w ^ (i + 1) := by grind
    simp -implicitDefEqProofs only [c1, c2, tab_length, if_true, gold_Mul_eq (U_un _) hw, Option.bind_some, cv_un, Int.toNat_natCast, tab_set, es, nat64_succ (show i < 9223372036854775807 by omega)]
    have e : tab n (fun j => if j = i then cv w ^ i else if j < i then cv w ^ j else 0) = tab n (fun j => if j < i + 1 then cv w ^ j else 0) := by
      apply tab_congr
      intro j hj
      by_cases hji : j = i
      · subst hji; rw [if_pos rfl, if_pos (by omega)]
      · rw [if_neg hji]
        by_cases hh : j < i
        · rw [if_pos hh, if_pos (by omega)]
        · rw [if_neg hh, if_neg (by omega)]
    rw [e]
    exact ih
def hf (k : Nat) : Nat := max (2 ^ k / 2) 1
theorem twid_Table_ev {k : Nat} {d : Int} (hk : k ≤ 20) (hd : d = 0 ∨ d = 1) : Ev (fun n => twid_Table.f n (k : Int) d) (tab (hf k) (fun i => dr k d ^ i), 0) := by
  have hp := two_pow_lt (n := k) (m := 20) hk
  unfold twid_Table.f
  refine Ev.bind (twid_Root_ev (by omega) hd) ?_
  have c : (0 : Int) ≤ IntKind.u64.wrap (k : Int) := (U_wrap _).1
  have e : mx (((2 ^ k : Nat) : Int) / 2) 1 = ((hf k : Nat) : Int) := by unfold mx hf; omega
  simp -implicitDefEqProofs only [if_true, show ¬ (k : Int) > 20 by omega, if_false, c, shl_i64 (show k ≤ 62 by omega), e]
  refine Ev.bind (root_Powers_ev (U_un _) (by unfold hf; omega)) ?_
  rw [cv_un]
  exact Ev.now _
theorem kern4_whole_ev {k : Nat} (hk : k ≤ 20) {d : Int} (hd : d = 0 ∨ d = 1) : Ev (fun n => kern4_whole.f n (k : Int) d) (tab (2 ^ k) (fun i => dr k d ^ i)) := by
  unfold kern4_whole.f
  refine Ev.bind (twid_Table_ev hk hd) ?_
  have hp := two_pow_lt (n := k) (m := 20) hk
  have hh : hf k ≤ 2 ^ k := by unfold hf; have := Nat.two_pow_pos k; omega
  have c1 : ([] : List Int).length + (tab (hf k) (fun i => dr k d ^ i)).length < 17592186044416 := by rw [List.length_nil, tab_length]; omega
  simp -implicitDefEqProofs only [Option.bind_some, c1, if_true, List.nil_append]
  by_cases hk0 : k = 0
  · subst hk0
    simp -implicitDefEqProofs only [show ¬ ((0 : Nat) : Int) > 0 by omega, if_false]
    exact Ev.now _
  · simp -implicitDefEqProofs only [show (k : Int) > 0 by omega, if_true]
    have hfk : hf k = 2 ^ (k - 1) := by
      unfold hf
      obtain ⟨m, rfl⟩ : ∃ m, k = m + 1 := ⟨k - 1, by omega⟩
      have := Nat.two_pow_pos m
      rw [Nat.pow_succ, Nat.mul_div_cancel _ (by omega), show m + 1 - 1 = m by omega]
      omega
    have h2 : 2 ^ k = 2 ^ (k - 1) + 2 ^ (k - 1) := by
      obtain ⟨m, rfl⟩ : ∃ m, k = m + 1 := ⟨k - 1, by omega⟩
      rw [Nat.pow_succ, show m + 1 - 1 = m by omega]; omega
    rw [hfk]
    have hq : 2 ^ (k - 1) ≤ 2 ^ 20 := by omega
    have half := dr_half4 (k := k) (by omega) (by omega) hd
    rw [h2]
    obtain ⟨n, hn⟩ : ∃ n, n = 2 ^ (k - 1) := ⟨_, rfl⟩
    rw [← hn] at hq half ⊢
    have key := Ev_loop n (fun m i => kern4_whole.l0 m (tab (n + i) (fun i => dr k d ^ i)) (tab n (fun i => dr k d ^ i)) ((tab n (fun i => dr k d ^ i)).length : Int) (i : Int)) (r := tab (n + n) (fun i => dr k d ^ i)) ?_ ?_ 0 (Nat.zero_le _)
    · exact key
    · refine Ev.step (fun m => kern4_whole.l0.eq_2 ..) ?_
      simp -implicitDefEqProofs only [tab_length, show ¬ (n : Int) < (n : Int) by omega, if_false]
      exact Ev.now _
    · intro i hi ih
      refine Ev.step (fun m => kern4_whole.l0.eq_2 ..) ?_
      have e1 : gold_Neg.f (un (dr k d ^ i)) = some (un (dr k d ^ (n + i))) := by
        rw [gold_Neg_eq (U_un _), cv_un, pow_add', half, k3]
      have e3 : tab (n + i) (fun i => dr k d ^ i) ++ [un (dr k d ^ (n + i))] = tab (n + (i + 1)) (fun i => dr k d ^ i) := (tab_succ (n + i) _).symm
      simp -implicitDefEqProofs only [tab_length, show (i : Int) < (n : Int) by omega, show (0 : Int) ≤ (i : Int) by omega, if_true, rd_tab hi, e1, Option.bind_some, show n + i < 17592186044416 by omega, e3, nat64_succ (show i < 9223372036854775807 by omega)]
      simp -implicitDefEqProofs only [tab_length] at ih
      exact ih
where k3 {R : Nat} [NeZero R] (a : Fin R) : -1 * a = -a := by grind

theorem kern4_Unit_ev {d : Int} (hd : d = 0 ∨ d = 1) : Ev (fun n => kern4_Unit.f n d) (un (dr 2 d), 0) := by
  unfold kern4_Unit.f
  refine Ev.bind (twid_Root_ev (k := 2) (by omega) hd) ?_
  exact Ev.now _
theorem conv_times_ev {n : Nat} {a b : List Int} (ha : UL a) (hb : UL b) (hl : a.length = n) (hl2 : b.length = n) (hn : n < 4294967296) : Ev (fun k => conv_times.f k a b) (tab n (fun i => co a i * co b i)) := by
  unfold conv_times.f
  have d1 : (0 : Int) ≤ (a.length : Int) := by omega
  have d2 : a.length ≤ 35184372088832 := by omega
  simp -implicitDefEqProofs only [d1, d2, if_true, Int.toNat_natCast, replicate_tab, Option.bind_some, tab_length]
  rw [hl]
  have e0 : tab n (fun _ => (0 : F)) = tab n (fun j => if j < 0 then co a j * co b j else 0) := tab_congr (fun j hj => by rw [if_neg (by omega)])
  rw [e0]
  refine Ev_loop n (fun k i => conv_times.l0 k a b (tab n (fun j => if j < i then co a j * co b j else 0)) (n : Int) (i : Int)) ?_ (fun i hi ih => ?_) 0 (Nat.zero_le _)
  · refine Ev.step (fun k => conv_times.l0.eq_2 ..) ?_
    simp -implicitDefEqProofs only [Int.lt_irrefl, if_false]
    rw [tab_congr (g := fun i => co a i * co b i) (fun i hi => by rw [if_pos hi])]
    exact Ev.now _
  · refine Ev.step (fun k => conv_times.l0.eq_2 ..) ?_
    have c1 : (i : Int) < (n : Int) := by omega
    have c2 : (0 : Int) ≤ (i : Int) := by omega
    have c3 : (i : Int) < (a.length : Int) := by omega
    have c4 : (i : Int) < (b.length : Int) := by omega
    simp -implicitDefEqProofs only [c1, c2, c3, c4, tab_length, if_true, gold_Mul_eq (U_rd ha _) (U_rd hb _), Option.bind_some, cv_rd, Int.toNat_natCast, tab_set, nat64_succ (show i < 9223372036854775807 by omega)]
    have e : tab n (fun j => if j = i then co a i * co b i else if j < i then co a j * co b j else 0) = tab n (fun j => if j < i + 1 then co a j * co b j else 0) := by
      apply tab_congr
      intro j hj
      by_cases hji : j = i
      · subst hji; rw [if_pos rfl, if_pos (by omega)]
      · rw [if_neg hji]
        by_cases hh : j < i
        · rw [if_pos hh, if_pos (by omega)]
        · rw [if_neg hh, if_neg (by omega)]
    rw [e]
    exact ih

theorem hk_kern_ev {k : Nat} (hk : k ≤ 20) : Ev (fun n => hk_kern n (k : Int)) (tab (2 ^ k) (fun i => dr k 0 ^ i), tab (2 ^ k) (fun i => dr k 1 ^ i), un (dr 2 0), un (dr 2 1), un (sh k)) := by
  unfold hk_kern
  refine Ev.bind (twid_Table_ev (by omega) (.inl rfl)) ?_
  refine Ev.bind (twid_Table_ev (by omega) (.inr rfl)) ?_
  refine Ev.bind (kern4_whole_ev hk (.inl rfl)) ?_
  refine Ev.bind (kern4_whole_ev hk (.inr rfl)) ?_
  refine Ev.bind (kern4_Unit_ev (.inl rfl)) ?_
  refine Ev.bind (kern4_Unit_ev (.inr rfl)) ?_
  refine Ev.bind (twid_Share_ev (by omega)) ?_
  exact Ev.now _
theorem hk_fwd_ev {l : List Int} (h : UL l) {k : Nat} (hk : k ≤ 20) {d : Int} (hd : d = 0 ∨ d = 1) (hl : l.length = 2 ^ k) : Ev (fun n => hk_fwd n k (tab (2 ^ k) (fun i => dr k d ^ i)) (un (dr 2 d)) l) (tab (2 ^ k) (fun j => dft (2 ^ k) (dr k d) (co l) j)) := by
  have hp := two_pow_lt (n := k) (m := 20) hk
  unfold hk_fwd
  refine Ev.bind (twid_Scale_ev h (by omega) U_one) ?_
  rw [scale_one hl]
  have c : (tab (2 ^ k) (co l)).length = l.length ∧ l.length = 2 ^ k ∧ (tab (2 ^ k) (fun i => dr k d ^ i)).length = 2 ^ k := ⟨by rw [tab_length, hl], hl, tab_length _ _⟩
  simp -implicitDefEqProofs only [if_pos c, hk_k4r_eq hk hd (co l)]
  exact Ev.now _
theorem hk_fwd_tf {l : List Int} (h : UL l) {k : Nat} (hk : k ≤ 20) (hl : l.length = 2 ^ k) : Ev (fun n => hk_fwd n k (tab (2 ^ k) (fun i => dr k 0 ^ i)) (un (dr 2 0)) l) (tab (2 ^ k) (tf k 0 (co l))) := by
  have e := hk_fwd_ev h hk (d := 0) (.inl rfl) hl
  rw [tab_congr (fun j _ => (tf_fwd k (co l) j).symm)] at e
  exact e
theorem hk_bwd_ev {l : List Int} (h : UL l) {k : Nat} (hk : k ≤ 20) (hl : l.length = 2 ^ k) : Ev (fun n => hk_bwd n k (tab (2 ^ k) (fun i => dr k 1 ^ i)) (un (dr 2 1)) (un (sh k)) l) (tab (2 ^ k) (tf k 1 (co l))) := by
  have hp := two_pow_lt (n := k) (m := 20) hk
  unfold hk_bwd
  refine Ev.bind (hk_fwd_ev h hk (.inr rfl) hl) ?_
  refine Ev.bind (twid_Scale_ev (UL_tab _ _) (by rw [tab_length]; omega) (U_un (sh k))) ?_
  have e2 : tab (tab (2 ^ k) (fun j => dft (2 ^ k) (dr k 1) (co l) j)).length (fun i => co (tab (2 ^ k) (fun j => dft (2 ^ k) (dr k 1) (co l) j)) i * cv (un (sh k))) = tab (2 ^ k) (tf k 1 (co l)) := by
    rw [tab_length]
    refine tab_congr (fun p hp => ?_)
    rw [co_tab_lt hp, cv_un]
    exact (if_pos rfl).symm
  rw [e2]
  have c : (tab (2 ^ k) (tf k 1 (co l))).length = (tab (2 ^ k) (fun j => dft (2 ^ k) (dr k 1) (co l) j)).length := by rw [tab_length, tab_length]
  simp -implicitDefEqProofs only [if_pos c]
  exact Ev.now _
theorem conv_cyclic_ev {a b : List Int} (ha : UL a) (hb : UL b) {k : Nat} (hk : k ≤ 20) (hl : a.length = 2 ^ k) (hl2 : b.length = 2 ^ k) : Ev (fun n => conv_cyclic.f n a b (k : Int)) (tab (2 ^ k) (wrp (2 ^ k) 1 (co a) (co b))) := by
  have hp := two_pow_lt (n := k) (m := 20) hk
  unfold conv_cyclic.f
  have c : (0 : Int) ≤ (k : Int) ∧ (k : Int) ≤ 20 ∧ a.length = 2 ^ k ∧ b.length = 2 ^ k := ⟨by omega, by omega, hl, hl2⟩
  simp -implicitDefEqProofs only [Int.toNat_natCast]
  simp -implicitDefEqProofs only [if_pos c]
  refine Ev.bind (hk_kern_ev hk) ?_
  refine Ev.bind (hk_fwd_tf ha hk hl) ?_
  refine Ev.bind (hk_fwd_tf hb hk hl2) ?_
  refine Ev.bind (conv_times_ev (n := 2 ^ k) (UL_tab _ _) (UL_tab _ _) (tab_length _ _) (tab_length _ _) (by omega)) ?_
  have e := hk_bwd_ev (l := tab (2 ^ k) (fun i => co (tab (2 ^ k) (tf k 0 (co a))) i * co (tab (2 ^ k) (tf k 0 (co b))) i)) (UL_tab _ _) hk (tab_length _ _)
  have e2 : tab (2 ^ k) (tf k 1 (co (tab (2 ^ k) (fun i => co (tab (2 ^ k) (tf k 0 (co a))) i * co (tab (2 ^ k) (tf k 0 (co b))) i)))) = tab (2 ^ k) (wrp (2 ^ k) 1 (co a) (co b)) := by
    refine tab_congr (fun j hj => ?_)
    rw [← wrp_tf (by omega) (co a) (co b) hj]
    exact tf_congr (fun i hi => by rw [co_tab_lt hi, co_tab_lt hi, co_tab_lt hi]) j
  rw [e2] at e
  exact e

theorem conv_padded_ev {p : List Int} {k : Nat} (hk : k ≤ 20) (h0 : 0 < p.length) (hl : p.length ≤ 2 ^ k) : Ev (fun n => conv_padded.f n p (k : Int)) (p ++ List.replicate (2 ^ k - p.length) 0) := by
  have c : (0 : Int) ≤ (k : Int) ∧ (k : Int) ≤ 20 ∧ 0 < p.length ∧ p.length ≤ 2 ^ k := ⟨by omega, by omega, h0, hl⟩
  unfold conv_padded.f
  simp -implicitDefEqProofs only [Int.toNat_natCast]
  rw [if_pos c]
  exact Ev.now _
theorem pad_tr {m n : Nat} {f : Nat → F} (hf : ∀ i, m ≤ i → f i = 0) (h : dg m f ≤ n) : tr m f ++ List.replicate (n - (tr m f).length) 0 = tab n f := by
  rw [tr_length]
  unfold tr
  rw [replicate_tab, tab_append, show dg m f + (n - dg m f) = n by omega]
  refine tab_congr (fun i hi => ?_)
  by_cases c : i < dg m f
  · rw [if_pos c]
  · rw [if_neg c]
    rcases Nat.lt_or_ge i m with d | d
    · exact (dg_out (by omega) d).symm
    · exact (hf i d).symm

theorem product_none {a b : List Int} (k : Nat) : Ev (fun k => conv_product.j0 k a b true) [] := by
  refine Ev.step (fun k => conv_product.j0.eq_2 ..) ?_
  exact Ev.now _
theorem conv_product_ev {p q : List Int} (hp : UL p) (hq : UL q) (hl : p.length + q.length ≤ 524288) : Ev (fun k => conv_product.f k p q) (pmul p q) := by
  unfold conv_product.f
  refine Ev.bind (poly_Trim_ev hp (by omega)) ?_
  refine Ev.bind (poly_Trim_ev hq (by omega)) ?_
  have hdp := dg_le p.length (co p)
  have hdq := dg_le q.length (co q)
  rw [tr_length, tr_length]
  by_cases c1 : dg p.length (co p) = 0
  · simp -implicitDefEqProofs only [show (dg p.length (co p) : Int) = 0 by omega, if_true]
    have e : pmul p q = [] := tr_zero (fun i _ => by
      refine Sm_zeros (fun j _ => ?_)
      have : co p j = 0 := by
        rcases Nat.lt_or_ge j p.length with d | d
        · exact dg_out (by omega) d
        · exact co_out d
      rw [this]; exact k1 _)
    rw [e]
    exact product_none 0
  simp -implicitDefEqProofs only [show ¬ (dg p.length (co p) : Int) = 0 by omega, if_false]
  by_cases c2 : dg q.length (co q) = 0
  · have e0 : ((dg q.length (co q) : Int) == 0) = true := beq_iff_eq.2 (by omega)
    have e : pmul p q = [] := tr_zero (fun i _ => by
      refine Sm_zeros (fun j _ => ?_)
      have : co q (i - j) = 0 := by
        rcases Nat.lt_or_ge (i - j) q.length with d | d
        · exact dg_out (by omega) d
        · exact co_out d
      rw [this]; exact k2 _)
    rw [e0, e]
    exact product_none 0
  have e0 : ((dg q.length (co q) : Int) == 0) = false := beq_eq_false_iff_ne.2 (by omega)
  rw [e0]
  refine Ev.step (fun k => conv_product.j0.eq_2 ..) ?_
  simp -implicitDefEqProofs only [Bool.false_eq_true, if_false, tr_length]
  obtain ⟨e, he, hle, hE⟩ := conv_exponent_ev (n := dg p.length (co p) + dg q.length (co q) - 1) (by omega)
  have ea : wrap64 (wrap64 ((dg p.length (co p) : Int) + (dg q.length (co q) : Int)) - 1) = ((dg p.length (co p) + dg q.length (co q) - 1 : Nat) : Int) := by
    rw [add64 (by omega), wrap64_of (by omega) (by omega)]; omega
  rw [ea]
  refine Ev.bind hE ?_
  have hp2 := two_pow_lt (n := e) (m := 19) he
  refine Ev.bind (conv_padded_ev (by omega) (by rw [tr_length]; omega) (by rw [tr_length]; omega)) ?_
  refine Ev.bind (conv_padded_ev (by omega) (by rw [tr_length]; omega) (by rw [tr_length]; omega)) ?_
  rw [pad_tr (row_out p) (by omega), pad_tr (row_out q) (by omega)]
  refine Ev.bind (conv_cyclic_ev (UL_tab _ _) (UL_tab _ _) (by omega) (tab_length _ _) (tab_length _ _)) ?_
  refine Ev.bind (poly_Trim_ev (UL_tab _ _) (by rw [tab_length]; omega)) ?_
  refine Ev.congr (fun _ => ?_) (Ev.now _)
  refine congrArg some ?_
  rw [tab_length]
  unfold pmul
  have op : ∀ i, dg p.length (co p) ≤ i → co p i = 0 := fun i hi => by
    rcases Nat.lt_or_ge i p.length with d | d
    · exact dg_out hi d
    · exact co_out d
  have oq : ∀ i, dg q.length (co q) ≤ i → co q i = 0 := fun i hi => by
    rcases Nat.lt_or_ge i q.length with d | d
    · exact dg_out hi d
    · exact co_out d
  rw [tr_congr (n := 2 ^ e) (g := cvl (co p) (co q)) (fun j hj => by
    rw [co_tab_lt hj, wrp_congr hj (fun i hi => co_tab_lt hi) (fun i hi => co_tab_lt hi), wrp_fold hj 1 (fun i hi => op i (by omega)) (fun i hi => oq i (by omega)), cvl_out op oq (k := j + 2 ^ e) (by omega)]
    exact k3 _)]
  exact tr_eq (fun _ => rfl) (fun i hi => cvl_out op oq (by omega)) (fun i hi => cvl_out (row_out p) (row_out q) (by omega))
where
  k1 {R : Nat} [NeZero R] (x : Fin R) : 0 * x = 0 := by grind
  k2 {R : Nat} [NeZero R] (x : Fin R) : x * 0 = 0 := by grind
  k3 {R : Nat} [NeZero R] (x : Fin R) : x + 1 * 0 = x := by grind

theorem rdl_at (ls : List (List Int)) (i : Nat) : rd_L2 ls (i : Int) = ls.getD i [] := by unfold rd_L2; rw [Int.toNat_natCast]
/-- How many words the first rows have. -/
def tot (l : List (List Int)) : Nat → Nat
  | 0 => 0
  | i + 1 => tot l i + (l.getD i []).length
/-- The product of the first rows. -/
def pst (l : List (List Int)) : Nat → List Int
  | 0 => [1]
  | i + 1 => pmul (pst l i) (l.getD i [])
theorem pst_length (l : List (List Int)) : ∀ i, (pst l i).length ≤ 1 + tot l i
  | 0 => Nat.le_refl _
  | i + 1 => by
    have h1 := pst_length l i
    have h2 := pmul_length (pst l i) (l.getD i [])
    show (pmul (pst l i) (l.getD i [])).length ≤ 1 + (tot l i + (l.getD i []).length)
    omega
theorem tot_le (l : List (List Int)) {i j : Nat} (h : i ≤ j) : tot l i ≤ tot l j := by
  induction j with
  | zero => obtain rfl : i = 0 := by omega
            exact Nat.le_refl _
  | succ j ih =>
    rcases Nat.lt_or_ge i (j + 1) with d | d
    · have := ih (by omega)
      show tot l i ≤ tot l j + _
      omega
    · obtain rfl : i = j + 1 := by omega
      exact Nat.le_refl _
theorem pst_UL (l : List (List Int)) : ∀ i, UL (pst l i)
  | 0 => UL_cons U_one UL_nil
  | i + 1 => UL_tr _ _
theorem rows_UL {l : List (List Int)} (h : ∀ p ∈ l, UL p) (i : Nat) : UL (l.getD i []) := by
  rw [List.getD_eq_getElem?_getD]
  by_cases hi : i < l.length
  · rw [List.getElem?_eq_getElem hi]; exact h _ (List.getElem_mem hi)
  · rw [List.getElem?_eq_none (by omega)]; exact UL_nil
theorem conv_Product_ev {l : List (List Int)} (h : ∀ p ∈ l, UL p) (hn : l.length < 4294967296) (hl : tot l l.length < 524288) : Ev (fun k => conv_Product.f k l) (pst l l.length, 0) := by
  have second : Ev (fun k => conv_Product.l1 k [1] l (l.length : Int) 0) (pst l l.length, 0) := by
    refine Ev_loop l.length (fun k i => conv_Product.l1 k (pst l i) l (l.length : Int) (i : Int)) ?_ (fun i hi ih => ?_) 0 (Nat.zero_le _)
    · refine Ev.step (fun k => conv_Product.l1.eq_2 ..) ?_
      simp -implicitDefEqProofs only [Int.lt_irrefl, if_false]
      exact Ev.now _
    · refine Ev.step (fun k => conv_Product.l1.eq_2 ..) ?_
      simp -implicitDefEqProofs only [show (i : Int) < (l.length : Int) by omega, show (0 : Int) ≤ (i : Int) by omega, if_true, rdl_at, nat64_succ (show i < 9223372036854775807 by omega)]
      have h1 := pst_length l i
      have h2 := tot_le l (show i + 1 ≤ l.length by omega)
      have h3 : tot l (i + 1) = tot l i + (l.getD i []).length := rfl
      refine Ev.bind (conv_product_ev (pst_UL l i) (rows_UL h i) (by omega)) ?_
      exact ih
  unfold conv_Product.f
  refine Ev_loop l.length (fun k i => conv_Product.l0 k l (tot l i : Int) l (l.length : Int) (i : Int)) ?_ (fun i hi ih => ?_) 0 (Nat.zero_le _)
  · refine Ev.step (fun k => conv_Product.l0.eq_2 ..) ?_
    simp -implicitDefEqProofs only [Int.lt_irrefl, if_false]
    exact second
  · refine Ev.step (fun k => conv_Product.l0.eq_2 ..) ?_
    have h2 := tot_le l (show i + 1 ≤ l.length by omega)
    have h3 : tot l (i + 1) = tot l i + (l.getD i []).length := rfl
    have e1 : wrap64 (524288 - (tot l i : Int)) = 524288 - (tot l i : Int) := wrap64_of (by omega) (by omega)
    simp -implicitDefEqProofs only [show (i : Int) < (l.length : Int) by omega, show (0 : Int) ≤ (i : Int) by omega, if_true, rdl_at, e1, show ¬ (((l.getD i []).length : Int) > 524288 - (tot l i : Int)) by omega, if_false, nat64_succ (show i < 9223372036854775807 by omega), add64 (show tot l i + (l.getD i []).length < 9223372036854775808 by omega)]
    exact ih

theorem natural_fits_eq {l : List Int} (h : l.length ≤ 65536) : natural_fits.f l = some (l, 0) := by
  unfold natural_fits.f
  rw [if_neg (by omega)]

theorem carry_step (o p c : Nat) (x : Nat) (h : o = x) : o + p * (c % 65536) + c / 65536 * (p * 65536) = x + c * p := by
  subst h
  have := Nat.div_add_mod c 65536
  generalize c / 65536 = q at *
  generalize c % 65536 = r at *
  subst this
  grind
theorem natural_carry_l1_ev : ∀ (q c : Nat) (o : List Int), c < 65536 ^ q → c < 9223372036854775808 → Dg o → o.length + q < 8589934592 → Ev (fun k => natural_carry.l1 k o (c : Int)) (dgs (nv o + c * 65536 ^ o.length))
  | 0, c, o, h, _, ho, _ => by
    obtain rfl : c = 0 := by simpa using h
    refine Ev.step (fun k => natural_carry.l1.eq_2 ..) ?_
    simp -implicitDefEqProofs only [show ¬ ((0 : Nat) : Int) > 0 by decide, if_false, natural_trim_dgs ho, Option.bind_some]
    rw [Nat.zero_mul, Nat.add_zero]
    exact Ev.now _
  | q + 1, c, o, h, h2, ho, hl => by
    by_cases c0 : c = 0
    · subst c0
      refine Ev.step (fun k => natural_carry.l1.eq_2 ..) ?_
      simp -implicitDefEqProofs only [show ¬ ((0 : Nat) : Int) > 0 by decide, if_false, natural_trim_dgs ho, Option.bind_some]
      rw [Nat.zero_mul, Nat.add_zero]
      exact Ev.now _
    · refine Ev.step (fun k => natural_carry.l1.eq_2 ..) ?_
      have ih := natural_carry_l1_ev q (c / 65536) (o ++ [((c % 65536 : Nat) : Int)]) (by rw [Nat.pow_succ] at h; exact Nat.div_lt_of_lt_mul (by rw [Nat.mul_comm]; exact h)) (by omega) (Dg_append ho (Dg_one (by omega) (by omega))) (by rw [List.length_append, List.length_singleton]; omega)
      rw [nv_snoc, List.length_append, List.length_singleton, Nat.pow_succ, Int.toNat_natCast, carry_step _ _ _ _ rfl] at ih
      simp -implicitDefEqProofs only [show (c : Int) > 0 by omega, if_true, show o.length < 17592186044416 by omega, tm16, td16, wu64_nat (show c / 65536 < 18446744073709551616 by omega)]
      exact ih
theorem natural_carry_ev {a : List Int} (h : ∀ x ∈ a, 0 ≤ x ∧ x ≤ 4611686018427387904) (hl : a.length < 4294967296) : Ev (fun k => natural_carry.f k a) (dgs (nv a)) := by
  unfold natural_carry.f
  have key : ∀ (d i c : Nat) (o : List Int), i + d = a.length → c ≤ 4611686018427387904 → Dg o → o.length = i → nv o + c * 65536 ^ i = ns i (fun j => (a.getD j 0).toNat) → Ev (fun k => natural_carry.l0 k o (c : Int) a (a.length : Int) (i : Int)) (dgs (nv a)) := by
    intro d
    induction d with
    | zero =>
      intro i c o hi hc ho hol hv
      obtain rfl : i = a.length := by omega
      refine Ev.step (fun k => natural_carry.l0.eq_2 ..) ?_
      simp -implicitDefEqProofs only [Int.lt_irrefl, if_false]
      rw [nv_ns, ← hol] at hv
      rw [← hv]
      exact natural_carry_l1_ev 4 c o (by omega) (by omega) ho (by omega)
    | succ d ih =>
      intro i c o hi hc ho hol hv
      have hx : 0 ≤ a.getD i 0 ∧ a.getD i 0 ≤ 4611686018427387904 := by
        rw [List.getD_eq_getElem?_getD, List.getElem?_eq_getElem (show i < a.length by omega)]
        exact h _ (List.getElem_mem _)
      obtain ⟨x, hxe⟩ := Int.eq_ofNat_of_zero_le hx.1
      have er : (c : Int) + rd a (i : Int) = ((c + x : Nat) : Int) := by rw [rd_nat, hxe]; omega
      refine Ev.step (fun k => natural_carry.l0.eq_2 ..) ?_
      simp -implicitDefEqProofs only [show (i : Int) < (a.length : Int) by omega, show (0 : Int) ≤ (i : Int) by omega, if_true, show o.length < 17592186044416 by omega, er, wu64_nat (show c + x < 18446744073709551616 by omega), tm16, td16, wu64_nat (show (c + x) / 65536 < 18446744073709551616 by omega), nat64_succ (show i < 9223372036854775807 by omega)]
      refine ih (i + 1) ((c + x) / 65536) (o ++ [(((c + x) % 65536 : Nat) : Int)]) (by omega) (by omega) (Dg_append ho (Dg_one (by omega) (by omega))) (by rw [List.length_append, List.length_singleton, hol]) ?_
      rw [nv_snoc, hol, Nat.pow_succ, Int.toNat_natCast, carry_step _ _ _ _ rfl]
      show _ = ns i (fun j => (a.getD j 0).toNat) + (a.getD i 0).toNat * 65536 ^ i
      rw [← hv, hxe]
      show _ = nv o + c * 65536 ^ i + x * 65536 ^ i
      grind
  exact key a.length 0 0 [] (by omega) (by omega) Dg_nil rfl rfl

theorem un_lc {a b : List Int} (ha : Dg a) (hb : Dg b) : ∀ k, cvl (co a) (co b) k = cv ((lc a b k : Nat) : Int) := by
  induction a with
  | nil =>
    intro k
    rw [lc_nil]
    exact Sm_zeros (fun i _ => by rw [show co [] i = 0 from cv_zero]; exact k0 _)
  | cons d t ih =>
    have hd := ha.head
    have one : ∀ k, cv ((d.toNat * (b.getD k 0).toNat : Nat) : Int) = co (d :: t) 0 * co b k := fun k => by
      have hg := Dg_getD hb k
      rw [Int.natCast_mul, cv_mul, Int.toNat_of_nonneg hd.1, Int.toNat_of_nonneg hg.1]; rfl
    intro k
    rw [cvl_first]
    cases k with
    | zero =>
      show _ = cv ((d.toNat * (b.getD 0 0).toNat : Nat) : Int)
      rw [one 0, Sm_zero]; exact k1 _
    | succ k =>
      show _ = cv ((d.toNat * (b.getD (k + 1) 0).toNat + lc t b k : Nat) : Int)
      rw [Int.natCast_add, cv_add, one (k + 1), ← ih ha.tail k]
      congr 1
      unfold cvl
      refine Sm_congr (fun i _ => ?_)
      rw [show k + 1 - (i + 1) = k - i by omega]; rfl
where
  k0 {R : Nat} [NeZero R] (x : Fin R) : 0 * x = 0 := by grind
  k1 {R : Nat} [NeZero R] (x : Fin R) : x + 0 = x := by grind
theorem nv_row {a b p : List Int} (ha : Dg a) (hb : Dg b) (hl : a.length ≤ 65536) (hp : IsRow p (cvl (co a) (co b))) : nv p = nv a * nv b ∧ ∀ x ∈ p, 0 ≤ x ∧ x ≤ 4611686018427387904 := by
  have hb1 : ∀ k, lc a b k ≤ 281470681743360 := fun k => by
    have h1 := lc_le ha hb k
    have h2 := Nat.mul_le_mul_right 4294836225 hl
    omega
  have hu : ∀ k, un (cvl (co a) (co b) k) = ((lc a b k : Nat) : Int) := fun k => by
    have := hb1 k
    rw [un_lc ha hb, un_cv_of _ (by omega) (by omega)]
  obtain ⟨n, hn, rfl⟩ := hp
  have hg : ∀ i, i < (tr n (cvl (co a) (co b))).length → (tr n (cvl (co a) (co b))).getD i 0 = ((lc a b i : Nat) : Int) := fun i hi => by
    rw [tr_length] at hi
    unfold tr
    rw [tab_getD _ _ _ hi, hu]
  have h0 : ∀ i, (tr n (cvl (co a) (co b))).length ≤ i → lc a b i = 0 := fun i hi => by
    have : cvl (co a) (co b) i = 0 := by
      rw [tr_length] at hi
      rcases Nat.lt_or_ge i n with d | d
      · exact dg_out hi d
      · exact hn i d
    have h1 := hu i
    rw [this, un_zero] at h1
    omega
  constructor
  · rw [← nv_ns, ns_congr (g := lc a b) (fun i hi => by rw [hg i hi, Int.toNat_natCast]), ← ns_lc a b ((tr n (cvl (co a) (co b))).length + (a.length + b.length)) (by omega), ns_ext (m := (tr n (cvl (co a) (co b))).length + (a.length + b.length)) (by omega) h0]
  · intro x hx
    obtain ⟨i, hi, rfl⟩ := List.mem_iff_getElem.1 hx
    have := hg i hi
    rw [List.getD_eq_getElem?_getD, List.getElem?_eq_getElem hi] at this
    have h1 := hb1 i
    simp only [Option.getD_some] at this
    rw [this]
    exact ⟨by omega, by omega⟩
theorem pst_two {a b : List Int} : IsRow (pst [a, b] 2) (cvl (co a) (co b)) := by
  have h1 : IsRow (pst [a, b] 1) (co a) := by
    have h := pmul_any [1] a
    rw [show co [1] = pone from pone_row.co] at h
    exact h.congr (pone_cvl (co a))
  have h2 := pmul_any (pst [a, b] 1) b
  rw [h1.co] at h2
  exact h2
theorem times_nil {a b : List Int} : Ev (fun k => natural_times.j0 k a b true) ([], 0) := by
  refine Ev.step (fun k => natural_times.j0.eq_2 ..) ?_
  simp -implicitDefEqProofs only [if_true]
  exact Ev.now _
theorem dgs_mul_length {a b : List Int} (ha : Dg a) (hb : Dg b) : (dgs (nv a * nv b)).length ≤ a.length + b.length := by
  apply dgs_length_lt
  have h1 := nv_lt ha
  have h2 := nv_lt hb
  rw [Nat.pow_add]
  exact Nat.mul_lt_mul'' h1 h2
theorem natural_times_ev {a b : List Int} (ha : Nt a) (hb : Nt b) (hl : a.length + b.length ≤ 65536) : Ev (fun k => natural_times.f k a b) (dgs (nv a * nv b), 0) := by
  unfold natural_times.f
  by_cases c1 : a.length = 0
  · simp -implicitDefEqProofs only [show (a.length : Int) = 0 by omega, if_true]
    obtain rfl : a = [] := List.length_eq_zero_iff.1 c1
    rw [nv_nil, Nat.zero_mul, dgs_zero]
    exact times_nil
  simp -implicitDefEqProofs only [show ¬ (a.length : Int) = 0 by omega, if_false]
  by_cases c2 : b.length = 0
  · rw [show ((b.length : Int) == 0) = true from beq_iff_eq.2 (by omega)]
    obtain rfl : b = [] := List.length_eq_zero_iff.1 c2
    rw [nv_nil, Nat.mul_zero, dgs_zero]
    exact times_nil
  rw [show ((b.length : Int) == 0) = false from beq_eq_false_iff_ne.2 (by omega)]
  refine Ev.step (fun k => natural_times.j0.eq_2 ..) ?_
  have e1 : wrap64 (wrap64 ((a.length : Int) + (b.length : Int)) - 1) = ((a.length + b.length - 1 : Nat) : Int) := by
    rw [add64 (by omega), wrap64_of (by omega) (by omega)]; omega
  simp -implicitDefEqProofs only [Bool.false_eq_true, if_false, e1, show ¬ ((a.length + b.length - 1 : Nat) : Int) > 65536 by omega]
  have ht : tot [a, b] [a, b].length = a.length + b.length := by
    show 0 + a.length + b.length = _; omega
  refine Ev.bind (conv_Product_ev (l := [a, b]) (fun p hp => ?_) (show 2 < 4294967296 by decide) (by rw [ht]; omega)) ?_
  · rcases List.mem_cons.1 hp with rfl | hp
    · exact Dg_UL ha.Dg
    · rcases List.mem_cons.1 hp with rfl | hp
      · exact Dg_UL hb.Dg
      · cases hp
  have hrow : IsRow (pst [a, b] [a, b].length) (cvl (co a) (co b)) := pst_two
  have hpl := pst_length [a, b] [a, b].length
  rw [ht] at hpl
  obtain ⟨hv, hx⟩ := nv_row ha.Dg hb.Dg (by omega) hrow
  simp -implicitDefEqProofs only [if_true]
  refine Ev.bind (natural_carry_ev hx (by omega)) ?_
  have hlen := dgs_mul_length ha.Dg hb.Dg
  rw [hv, natural_fits_eq (by omega)]
  simp -implicitDefEqProofs only [Option.bind_some]
  exact Ev.now _

/-- The product of numbers. -/
def nvp : List (List Int) → Nat
  | [] => 1
  | a :: t => nv a * nvp t
/-- The lengths of rows. -/
def lns : List (List Int) → Nat
  | [] => 0
  | a :: t => a.length + lns t
theorem hk_prods_ev : ∀ (ls : List (List Int)) (o : List Int), (∀ l ∈ ls, Nt l) → Nt o → o.length + lns ls ≤ 65536 → Ev (fun k => hk_prods k ls o) (dgs (nv o * nvp ls), 0)
  | [], o, _, ho, _ => by
    show Ev (fun k => some (o, 0)) (dgs (nv o * 1), 0)
    rw [Nat.mul_one, ← show o = dgs (nv o) from ho]
    exact Ev.now _
  | a :: t, o, h, ho, hl => by
    have ha := h a List.mem_cons_self
    have hlen := dgs_mul_length ho.Dg ha.Dg
    have hl2 : lns (a :: t) = a.length + lns t := rfl
    show Ev (fun k => (natural_times.f k o a).bind fun q => if q.2 = 0 then hk_prods k t q.1 else some ([], q.2)) _
    refine Ev.bind (natural_times_ev ho ha (by omega)) ?_
    simp -implicitDefEqProofs only [if_true]
    have ih := hk_prods_ev t (dgs (nv o * nv a)) (fun l hl => h l (List.mem_cons_of_mem _ hl)) (Nt_dgs _) (by omega)
    rw [nv_dgs, Nat.mul_assoc] at ih
    exact ih
theorem nvp_nil {ls : List (List Int)} (h : [] ∈ ls) : nvp ls = 0 := by
  induction ls with
  | nil => cases h
  | cons a t ih =>
    rcases List.mem_cons.1 h with rfl | h
    · show 0 * _ = 0; exact Nat.zero_mul _
    · show nv a * nvp t = 0; rw [ih h, Nat.mul_zero]
theorem lns_le {ls : List (List Int)} : ∀ l ∈ ls, l.length ≤ lns ls := by
  induction ls with
  | nil => intro l hl; cases hl
  | cons a t ih =>
    intro l hl
    show l.length ≤ a.length + lns t
    rcases List.mem_cons.1 hl with rfl | hl
    · omega
    · have := ih l hl; omega
theorem natural_Product_ev {ls : List (List Int)} (h : ∀ l ∈ ls, Nt l) (hl : lns ls < 65536) : Ev (fun k => natural_Product.f k ls) (dgs (nvp ls), 0) := by
  unfold natural_Product.f
  have e0 : ¬ ls.any hk_bad = true := fun e => by
    obtain ⟨l, hm, hb⟩ := List.any_eq_true.1 e
    unfold hk_bad at hb
    rw [Nt_good (h l hm) (by have := lns_le l hm; omega)] at hb
    cases hb
  simp -implicitDefEqProofs only [e0, if_false]
  by_cases c : ls.any hk_nil = true
  · simp -implicitDefEqProofs only [c, if_true]
    obtain ⟨l, hm, hn⟩ := List.any_eq_true.1 c
    have hl0 : l = [] := List.length_eq_zero_iff.1 (beq_iff_eq.1 hn)
    rw [hl0] at hm
    rw [nvp_nil hm, dgs_zero]
    exact Ev.now _
  · simp -implicitDefEqProofs only [c, if_false]
    have e : ([1] : List Int) = dgs 1 := by rw [dgs_pos (by decide), show 1 / 65536 = 0 from rfl, dgs_zero]; rfl
    have := hk_prods_ev ls [1] h (by rw [e]; exact Nt_dgs 1) (by show 1 + _ ≤ _; omega)
    rw [show nv [1] = 1 from rfl, Nat.one_mul] at this
    exact this
theorem abacistlaw31_awake_ev : Ev (fun k => abacistlaw31_awake.f k) true := by
  unfold abacistlaw31_awake.f
  have h1 := natural_Of_ev (n := 99999) (by decide)
  refine Ev.bind h1 ?_
  have hlen : (dgs 99999).length ≤ 2 := dgs_length_lt (by decide)
  have hP : Ev (fun k => natural_Product.f k [dgs 99999, dgs 99999]) (dgs 9999800001, 0) := by
    have h := natural_Product_ev (ls := [dgs 99999, dgs 99999]) (fun l hl => by
      rcases List.mem_cons.1 hl with rfl | hl
      · exact Nt_dgs _
      · rcases List.mem_cons.1 hl with rfl | hl
        · exact Nt_dgs _
        · cases hl) (by show (dgs 99999).length + ((dgs 99999).length + 0) < 65536; omega)
    have e : nvp [dgs 99999, dgs 99999] = 9999800001 := by
      show nv (dgs 99999) * (nv (dgs 99999) * 1) = _
      rw [nv_dgs]
    rw [e] at h
    exact h
  refine Ev.bind hP ?_
  have hl2 : (dgs 9999800001).length ≤ 3 := dgs_length_lt (by decide)
  refine Ev.bind (natural_Text_ev (by omega)) ?_
  have ed : decs 9999800001 = [49, 48, 48, 48, 48, 56, 57, 57, 57, 57] := by
    rw [decs_pos (by decide), show 9999800001 / 10 = 999980000 from rfl, decs_pos (by decide), show 999980000 / 10 = 99998000 from rfl, decs_pos (by decide), show 99998000 / 10 = 9999800 from rfl, decs_pos (by decide), show 9999800 / 10 = 999980 from rfl, decs_pos (by decide), show 999980 / 10 = 99998 from rfl, decs_pos (by decide), show 99998 / 10 = 9999 from rfl, decs_pos (by decide), show 9999 / 10 = 999 from rfl, decs_pos (by decide), show 999 / 10 = 99 from rfl, decs_pos (by decide), show 99 / 10 = 9 from rfl, decs_pos (by decide), show 9 / 10 = 0 from rfl, decs_zero]; rfl
  have et : (txt 9999800001).toList == ([57, 57, 57, 57, 56, 48, 48, 48, 48, 49] : List UInt8) := by
    unfold txt
    rw [if_neg (by decide), ed]
    decide +kernel
  rw [et]
  simp -implicitDefEqProofs only [if_true]
  exact Ev.now _

/-- A byte that is a digit. -/
def isd (b : UInt8) : Bool := decide (48 ≤ b.toNat) && decide (b.toNat ≤ 57)
theorem isd_iff {b : UInt8} : isd b = true ↔ 48 ≤ b.toNat ∧ b.toNat ≤ 57 := by unfold isd; simp
/-- What digits tell, the highest first, behind what was told. -/
def va : Nat → List UInt8 → Nat
  | n, [] => n
  | n, b :: t => va (n * 10 + (b.toNat - 48)) t
theorem va_snoc (b : UInt8) : ∀ (l : List UInt8) (n : Nat), va n (l ++ [b]) = va n l * 10 + (b.toNat - 48)
  | [], _ => rfl
  | c :: t, n => va_snoc b t _
theorem va_lt : ∀ (l : List UInt8) (n : Nat), (∀ b ∈ l, isd b = true) → va n l < (n + 1) * 10 ^ l.length
  | [], n, _ => by show n < (n + 1) * 1; omega
  | b :: t, n, h => by
    have hb := isd_iff.1 (h b List.mem_cons_self)
    have ih := va_lt t (n * 10 + (b.toNat - 48)) (fun c hc => h c (List.mem_cons_of_mem _ hc))
    show va (n * 10 + (b.toNat - 48)) t < (n + 1) * 10 ^ (t.length + 1)
    refine Nat.lt_of_lt_of_le ih ?_
    rw [Nat.pow_succ, Nat.mul_comm (10 ^ t.length), ← Nat.mul_assoc]
    exact Nat.mul_le_mul_right _ (by omega)
/-- A number's digits, the highest first. -/
def lst (n : Nat) : List UInt8 := if h : n < 10 then [UInt8.ofNat (48 + n)] else lst (n / 10) ++ [UInt8.ofNat (48 + n % 10)]
termination_by n
decreasing_by omega
theorem lst_small {n : Nat} (h : n < 10) : lst n = [UInt8.ofNat (48 + n)] := by rw [lst, dif_pos h]
theorem lst_big {n : Nat} (h : ¬ n < 10) : lst n = lst (n / 10) ++ [UInt8.ofNat (48 + n % 10)] := by rw [lst, dif_neg h]
theorem u8_dig {d : Nat} (h : d < 10) : (UInt8.ofNat (48 + d)).toNat = 48 + d := by
  rw [UInt8.toNat_ofNat']; omega
theorem lst_isd (n : Nat) : ∀ b ∈ lst n, isd b = true := by
  induction n using Nat.strongRecOn with
  | ind n ih =>
    intro b hb
    by_cases c : n < 10
    · rw [lst_small c, List.mem_singleton] at hb
      rw [hb, isd_iff, u8_dig c]; omega
    · rw [lst_big c, List.mem_append, List.mem_singleton] at hb
      rcases hb with hb | hb
      · exact ih (n / 10) (by omega) b hb
      · rw [hb, isd_iff, u8_dig (by omega)]; omega
theorem va_lst (n : Nat) : va 0 (lst n) = n := by
  induction n using Nat.strongRecOn with
  | ind n ih =>
    by_cases c : n < 10
    · rw [lst_small c]
      show 0 * 10 + ((UInt8.ofNat (48 + n)).toNat - 48) = n
      rw [u8_dig c]; omega
    · rw [lst_big c, va_snoc, ih (n / 10) (by omega), u8_dig (by omega)]; omega
theorem lst_length {n : Nat} : ∀ q, n < 10 ^ (q + 1) → (lst n).length ≤ q + 1 := by
  intro q
  induction q generalizing n with
  | zero => intro h; rw [lst_small (by simpa using h)]; exact Nat.le_refl _
  | succ q ih =>
    intro h
    by_cases c : n < 10
    · rw [lst_small c]; simp
    · rw [lst_big c, List.length_append, List.length_singleton]
      have := ih (n := n / 10) (by rw [Nat.pow_succ] at h; exact Nat.div_lt_of_lt_mul (by rw [Nat.mul_comm]; exact h))
      omega
theorem u8_of_dig {b : UInt8} (h : isd b = true) : UInt8.ofNat (48 + (b.toNat - 48)) = b := by
  have hb := isd_iff.1 h
  rw [show 48 + (b.toNat - 48) = b.toNat by omega]
  exact UInt8.ofNat_toNat
/-- A right row of digits is its number's. -/
theorem lst_va : ∀ (n : Nat) (l : List UInt8), l.length = n + 1 → (∀ b ∈ l, isd b = true) → (∀ b t, l = b :: t → b.toNat = 48 → t = []) → lst (va 0 l) = l
  | 0, l, hl, hd, _ => by
    obtain ⟨b, rfl⟩ := List.length_eq_one_iff.1 hl
    have hb := hd b List.mem_cons_self
    have hb2 := isd_iff.1 hb
    show lst (0 * 10 + (b.toNat - 48)) = [b]
    rw [show 0 * 10 + (b.toNat - 48) = b.toNat - 48 by omega, lst_small (by omega), u8_of_dig hb]
  | n + 1, l, hl, hd, h0 => by
    obtain ⟨t, b, rfl⟩ : ∃ t b, l = t ++ [b] := by
      refine ⟨l.dropLast, l.getLast (by intro e; rw [e] at hl; cases hl), (List.dropLast_concat_getLast _).symm⟩
    have htl : t.length = n + 1 := by rw [List.length_append, List.length_singleton] at hl; omega
    have hb := hd b (List.mem_append_right _ List.mem_cons_self)
    have hb2 := isd_iff.1 hb
    have hdt : ∀ c ∈ t, isd c = true := fun c hc => hd c (List.mem_append_left _ hc)
    have ih := lst_va n t htl hdt (fun c u e hc => by
      exfalso
      have := h0 c (u ++ [b]) (by rw [e]; rfl) hc
      cases u <;> cases this)
    have hp : va 0 t ≠ 0 := by
      intro e
      rw [e, lst_small (by omega)] at ih
      have := h0 (UInt8.ofNat (48 + 0)) [b] (by rw [← ih]; rfl) (u8_dig (by omega))
      cases this
    rw [va_snoc, lst_big (by omega), show (va 0 t * 10 + (b.toNat - 48)) / 10 = va 0 t by omega, show (va 0 t * 10 + (b.toNat - 48)) % 10 = b.toNat - 48 by omega, ih, u8_of_dig hb]
theorem decs_lst {n : Nat} (h : n ≠ 0) : (decs n).reverse.map (fun x => UInt8.ofNat x.toNat) = lst n := by
  induction n using Nat.strongRecOn with
  | ind n ih =>
    rw [decs_pos h, List.reverse_cons, List.map_append]
    have e : ([((48 + n % 10 : Nat) : Int)].map (fun x => UInt8.ofNat x.toNat)) = [UInt8.ofNat (48 + n % 10)] := by rw [List.map_cons, List.map_nil, Int.toNat_natCast]
    by_cases c : n < 10
    · rw [show n / 10 = 0 by omega, decs_zero, lst_small c, e, show n % 10 = n by omega]; rfl
    · rw [ih (n / 10) (by omega) (by omega), lst_big c, e]
theorem txt_lst (n : Nat) : txt n = ⟨(lst n).toArray⟩ := by
  unfold txt
  by_cases c : n = 0
  · rw [if_pos c, c, lst_small (by omega)]; rfl
  · rw [if_neg c]
    unfold strOfNums
    rw [decs_lst c]
theorem ba_mk (s : ByteArray) : (⟨s.data.toList.toArray⟩ : ByteArray) = s := by cases s; simp
theorem bt_nat (s : ByteArray) {i : Nat} (h : i < s.data.toList.length) : bt s (i : Int) = ((s.data.toList[i]'h).toNat : Int) := by
  rw [← rd_bytesOf, rd_nat]
  unfold bytesOf
  rw [List.getD_eq_getElem?_getD, List.getElem?_eq_getElem (by rw [List.length_map]; exact h)]
  simp
theorem dgs_length_le {n m : Nat} (h : n ≤ m) : (dgs n).length ≤ (dgs m).length := by
  rcases hL : (dgs n).length with _ | k
  · omega
  · have h1 : 65536 ^ k ≤ n := by
      rcases Nat.lt_or_ge n (65536 ^ k) with g | g
      · have := dgs_length_lt g; omega
      · exact g
    exact dgs_length_ge (Nat.le_trans h1 h)
theorem rd_in (bs : List Int) (bl i : Int) (r : List Int × Int) (M n : Nat) (hnM : n ≤ M) (hL : (dgs n).length < 4294967296) (hnext : Ev (fun k => natural_Read.l0 k (dgs M) bs bl (wrap64 (i + 1))) r) :
    ∀ (q p : List Int) (e : Nat), Dg p → Dg q → e < 65536 → p.length + q.length = (dgs n).length → nv p + 65536 ^ p.length * (10 * nv q + e) = M → Ev (fun k => natural_Read.l1 k (p ++ q) (e : Int) bs bl i ((dgs n).length : Int) (p.length : Int)) r := by
  intro q
  induction q with
  | nil =>
    intro p e hp _ he hl hM
    rw [List.append_nil]
    refine Ev.step (fun k => natural_Read.l1.eq_2 ..) ?_
    rw [List.length_nil] at hl
    have h2 := dgs_length_le hnM
    simp -implicitDefEqProofs only [show ¬ (p.length : Int) < ((dgs n).length : Int) by omega, if_false]
    rw [nv_nil, Nat.mul_zero, Nat.zero_add] at hM
    by_cases c : e = 0
    · subst c
      rw [Nat.mul_zero, Nat.add_zero] at hM
      simp -implicitDefEqProofs only [show ¬ ((0 : Nat) : Int) > 0 by decide, if_false]
      have h3 := trz_take p
      rw [trz_dgs hp, hM, List.take_of_length_le (by omega)] at h3
      rw [h3]
      exact hnext
    · simp -implicitDefEqProofs only [show (e : Int) > 0 by omega, if_true, show p.length < 17592186044416 by omega]
      have h3 : Nt (p ++ [(e : Int)]) := Nt_of (Dg_append hp (Dg_one (by omega) (by omega))) (fun j hj => by
        rw [List.length_append, List.length_singleton] at hj
        obtain rfl : j = p.length := by omega
        rw [List.getD_eq_getElem?_getD, List.getElem?_append_right (Nat.le_refl _), Nat.sub_self]
        show (e : Int) ≠ 0
        omega)
      rw [Nt, nv_snoc, Int.toNat_natCast, hM] at h3
      rw [h3]
      exact hnext
  | cons d q ih =>
    intro p e hp hq he hl hM
    have hd := hq.head
    obtain ⟨dn, rfl⟩ : ∃ dn : Nat, d = (dn : Int) := ⟨d.toNat, by omega⟩
    rw [List.length_cons] at hl
    have hx : rd (p ++ (dn : Int) :: q) (p.length : Int) = (dn : Int) := by
      rw [rd_nat, List.getD_eq_getElem?_getD, List.getElem?_append_right (Nat.le_refl _), Nat.sub_self]; rfl
    have hs : ∀ v : Int, (p ++ (dn : Int) :: q).set (p.length : Int).toNat v = (p ++ [v]) ++ q := fun v => by
      rw [Int.toNat_natCast, List.set_append_right _ _ (Nat.le_refl _), Nat.sub_self, List.append_assoc]; rfl
    have w1 : IntKind.u64.wrap (10 * (dn : Int)) = ((10 * dn : Nat) : Int) := by rw [show (10 : Int) * (dn : Int) = ((10 * dn : Nat) : Int) by omega]; exact wu64_nat (by omega)
    have w2 : IntKind.u64.wrap ((e : Int) + ((10 * dn : Nat) : Int)) = ((e + 10 * dn : Nat) : Int) := by rw [← Int.natCast_add]; exact wu64_nat (by omega)
    have hlen : (p ++ (dn : Int) :: q).length = (dgs n).length := by rw [List.length_append, List.length_cons]; omega
    refine Ev.step (fun k => natural_Read.l1.eq_2 ..) ?_
    simp -implicitDefEqProofs only [show (p.length : Int) < ((dgs n).length : Int) by omega, if_true, show (0 : Int) ≤ (p.length : Int) by omega, hlen, hx, w1, w2, tm16, td16, wu64_nat (show (e + 10 * dn) / 65536 < 18446744073709551616 by omega), hs, nat64_succ (show p.length < 9223372036854775807 by omega)]
    have h1 := ih (p ++ [(((e + 10 * dn) % 65536 : Nat) : Int)]) ((e + 10 * dn) / 65536) (Dg_append hp (Dg_one (by omega) (by omega))) hq.tail (by omega) (by rw [List.length_append, List.length_singleton]; omega) (by
      rw [nv_snoc, List.length_append, List.length_singleton, Nat.pow_succ, Int.toNat_natCast, ← hM, nv_cons, Int.toNat_natCast]
      have hdm := Nat.mod_add_div (e + 10 * dn) 65536
      generalize (e + 10 * dn) % 65536 = a at hdm
      generalize (e + 10 * dn) / 65536 = b at hdm
      generalize 65536 ^ p.length = P
      rw [Nat.add_assoc, Nat.mul_assoc, ← Nat.mul_add]
      congr 2
      omega)
    rw [List.length_append, List.length_singleton] at h1
    exact h1
theorem take_va {l : List UInt8} {i : Nat} (h : i < l.length) : va 0 (l.take (i + 1)) = va 0 (l.take i) * 10 + ((l[i]'h).toNat - 48) := by
  rw [List.take_add_one, List.getElem?_eq_getElem h]
  exact va_snoc _ _ _
theorem va_len {l : List UInt8} (hd : ∀ b ∈ l, isd b = true) (hl : l.length ≤ 101) : (dgs (va 0 l)).length ≤ 101 := by
  have h := va_lt l 0 hd
  rw [Nat.zero_add, Nat.one_mul] at h
  refine dgs_length_lt (Nat.lt_of_lt_of_le h (Nat.le_trans (Nat.pow_le_pow_right (by decide) hl) (Nat.pow_le_pow_left (by decide) _)))
theorem natural_Read_go {s : ByteArray} (hd : ∀ b ∈ s.data.toList, isd b = true) (hl : s.data.toList.length ≤ 101) : Ev (fun k => natural_Read.l0 k ([] : List Int) (bytesOf s) ((bytesOf s).length : Int) 0) (dgs (va 0 s.data.toList), 0) := by
  have hbl : (bytesOf s).length = s.data.toList.length := by rw [bytesOf_length, data_length]
  rw [hbl]
  have key : ∀ d i : Nat, i + d = s.data.toList.length → Ev (fun k => natural_Read.l0 k (dgs (va 0 (s.data.toList.take i))) (bytesOf s) (s.data.toList.length : Int) (i : Int)) (dgs (va 0 s.data.toList), 0) := by
    intro d
    induction d with
    | zero =>
      intro i hi
      obtain rfl : i = s.data.toList.length := by omega
      rw [List.take_length]
      refine Ev.step (fun k => natural_Read.l0.eq_2 ..) ?_
      simp -implicitDefEqProofs only [Int.lt_irrefl, if_false]
      exact Ev.now _
    | succ d ih =>
      intro i hi
      have hil : i < s.data.toList.length := by omega
      have hb := isd_iff.1 (hd _ (List.getElem_mem hil))
      have ih1 := ih (i + 1) (by omega)
      rw [take_va hil] at ih1
      refine Ev.step (fun k => natural_Read.l0.eq_2 ..) ?_
      simp -implicitDefEqProofs only [show (i : Int) < (s.data.toList.length : Int) by omega, if_true, show (0 : Int) ≤ (i : Int) by omega, hbl, rd_bytesOf, bt_nat s hil]
      generalize (s.data.toList[i]'hil).toNat = c at hb ih1
      have ec : ((c : Int) - 48) % 256 = ((c - 48 : Nat) : Int) := by omega
      rw [ec]
      have hdt : ∀ b ∈ s.data.toList.take i, isd b = true := fun b hb => hd b (List.mem_of_mem_take hb)
      have hlt := va_len hdt (by rw [List.length_take]; omega)
      have h2 := rd_in (bytesOf s) (s.data.toList.length : Int) (i : Int) _ (va 0 (s.data.toList.take i) * 10 + (c - 48)) (va 0 (s.data.toList.take i)) (by omega) (by omega) (by rw [nat64_succ (by omega)]; exact ih1)
        (dgs (va 0 (s.data.toList.take i))) [] (c - 48) Dg_nil (Dg_dgs _) (by omega) (by rw [List.length_nil]; omega) (by rw [nv_dgs, nv_nil, List.length_nil]; omega)
      exact h2
  have h := key _ 0 (Nat.zero_add _)
  rw [List.take_zero] at h
  have e0 : dgs (va 0 []) = [] := dgs_zero
  rw [e0] at h
  exact h
theorem dig_isd (b : UInt8) : hk_dig.contains b = isd b := by
  rcases h : isd b with _ | _
  · rw [← Bool.not_eq_true] at h ⊢
    intro c
    apply h
    simp only [hk_dig, List.contains_eq_mem, decide_eq_true_eq, List.mem_cons, List.not_mem_nil, or_false] at c
    rcases c with rfl | rfl | rfl | rfl | rfl | rfl | rfl | rfl | rfl | rfl <;> decide
  · have hb := isd_iff.1 h
    rw [← u8_of_dig h]
    generalize hd : b.toNat - 48 = d
    have : d < 10 := by omega
    rcases show d = 0 ∨ d = 1 ∨ d = 2 ∨ d = 3 ∨ d = 4 ∨ d = 5 ∨ d = 6 ∨ d = 7 ∨ d = 8 ∨ d = 9 by omega with rfl | rfl | rfl | rfl | rfl | rfl | rfl | rfl | rfl | rfl <;> decide
theorem mem_dropWhile {p : UInt8 → Bool} {x : UInt8} (hp : p x = false) : ∀ l : List UInt8, x ∈ l → x ∈ l.dropWhile p
  | [], h => h
  | b :: t, h => by
    rw [List.dropWhile_cons]
    split
    · rename_i hb
      rcases List.mem_cons.1 h with rfl | h
      · rw [hp] at hb; cases hb
      · exact mem_dropWhile hp t h
    · exact h
theorem dropWhile_all {p : UInt8 → Bool} : ∀ l : List UInt8, (∀ b ∈ l, p b = true) → l.dropWhile p = []
  | [], _ => rfl
  | b :: t, h => by
    rw [List.dropWhile_cons, if_pos (h b List.mem_cons_self)]
    exact dropWhile_all t (fun c hc => h c (List.mem_cons_of_mem _ hc))
theorem trim_all {l : List UInt8} (h : ∀ b ∈ l, isd b = true) : (Lib.trimS l hk_dig).length = 0 := by
  have e : (fun b => hk_dig.contains b) = isd := funext dig_isd
  unfold Lib.trimS Lib.trimLeftS Lib.trimRightS
  rw [e, dropWhile_all l.reverse (fun b hb => h b (List.mem_reverse.1 hb))]
  rfl
theorem trim_some {l : List UInt8} {b : UInt8} (hb : b ∈ l) (h : isd b = false) : (Lib.trimS l hk_dig).length ≠ 0 := by
  have e : (fun b => hk_dig.contains b) = isd := funext dig_isd
  have hm : b ∈ Lib.trimS l hk_dig := by
    unfold Lib.trimS Lib.trimLeftS Lib.trimRightS
    rw [e]
    exact mem_dropWhile h _ (List.mem_reverse.2 (mem_dropWhile h _ (List.mem_reverse.2 hb)))
  exact fun h0 => by rw [List.eq_nil_of_length_eq_zero h0] at hm; cases hm
/-- A right row of digits. -/
def vld (s : ByteArray) : Prop := s.size ≠ 0 ∧ (∀ b ∈ s.data.toList, isd b = true) ∧ ¬ (bt s 0 = 48 ∧ 1 < s.size)
theorem natural_Read_ev {s : ByteArray} (h : vld s) (hl : s.size ≤ 100) : Ev (fun k => natural_Read.f k s) (dgs (va 0 s.data.toList), 0) := by
  unfold natural_Read.f
  have h2 := trim_all h.2.1
  simp -implicitDefEqProofs only [show s.size < 9223372036854775807 by omega, if_true, h.1, if_false, show ¬ ((Lib.trimS s.data.toList hk_dig).length ≠ 0) by omega, h.2.2, show ¬ 10000 < s.size by omega]
  exact natural_Read_go h.2.1 (by rw [data_length]; omega)
theorem natural_Read_no {s : ByteArray} (h : ¬ vld s) (hl : s.size ≤ 100) : Ev (fun k => natural_Read.f k s) ([], 17) := by
  unfold natural_Read.f
  simp -implicitDefEqProofs only [show s.size < 9223372036854775807 by omega, if_true]
  by_cases c1 : s.size = 0
  · simp -implicitDefEqProofs only [if_pos c1]; exact Ev.now _
  · simp -implicitDefEqProofs only [if_neg c1]
    by_cases c2 : (Lib.trimS s.data.toList hk_dig).length ≠ 0
    · simp -implicitDefEqProofs only [if_pos c2]; exact Ev.now _
    · simp -implicitDefEqProofs only [if_neg c2]
      by_cases c3 : bt s 0 = 48 ∧ 1 < s.size
      · simp -implicitDefEqProofs only [if_pos c3]; exact Ev.now _
      · refine absurd ⟨c1, fun b hb => ?_, c3⟩ h
        rcases hi : isd b with _ | _
        · exact absurd (trim_some hb hi) c2
        · rfl

theorem first_diff (a b : List Int) (n : Nat) : (∀ i, i < n → a.getD i 0 = b.getD i 0) ∨ ∃ m, m < n ∧ (∀ i, i < m → a.getD i 0 = b.getD i 0) ∧ a.getD m 0 ≠ b.getD m 0 := by
  induction n with
  | zero => exact .inl (fun i hi => by omega)
  | succ n ih =>
    rcases ih with h | ⟨m, hm, h1, h2⟩
    · by_cases c : a.getD n 0 = b.getD n 0
      · refine .inl (fun i hi => ?_)
        by_cases e : i = n
        · rw [e]; exact c
        · exact h i (by omega)
      · exact .inr ⟨n, by omega, h, c⟩
    · exact .inr ⟨m, by omega, h1, h2⟩
theorem same_of_getD {a b : List Int} (hl : a.length = b.length) (h : ∀ i, i < a.length → a.getD i 0 = b.getD i 0) : a = b := by
  apply List.ext_getElem hl
  intro i h1 h2
  have := h i h1
  rw [List.getD_eq_getElem?_getD, List.getD_eq_getElem?_getD, List.getElem?_eq_getElem h1, List.getElem?_eq_getElem h2] at this
  simpa using this
theorem abacistref04_Same_ev (a b : List Int) (ha : a.length < 4294967296) : Ev (fun k => abacistref04_Same.f k a b) (decide (a = b)) := by
  unfold abacistref04_Same.f
  by_cases hl : a.length = b.length
  · have c0 : (a.length : Int) = (b.length : Int) := by omega
    have round : ∀ i, i < a.length → a.getD i 0 = b.getD i 0 → ∀ r : Bool, Ev (fun k => abacistref04_Same.l0 k a b ((i + 1 : Nat) : Int)) r → Ev (fun k => abacistref04_Same.l0 k a b (i : Int)) r := by
      intro i hi he r ih
      refine Ev.step (fun k => abacistref04_Same.l0.eq_2 ..) ?_
      have c1 : (i : Int) < (a.length : Int) := by omega
      have c2 : (0 : Int) ≤ (i : Int) := by omega
      have c3 : (i : Int) < (b.length : Int) := by omega
      simp -implicitDefEqProofs only [c1, c2, c3, rd_nat, he, if_true, nat64_succ (show i < 9223372036854775807 by omega)]
      exact ih
    simp -implicitDefEqProofs only [c0, if_true]
    rcases first_diff a b a.length with h | ⟨m, hm, h1, h2⟩
    · rw [decide_eq_true (same_of_getD hl h)]
      refine Ev_loop a.length (fun k i => abacistref04_Same.l0 k a b (i : Int)) ?_ (fun i hi ih => round i hi (h i hi) _ ih) 0 (Nat.zero_le _)
      refine Ev.step (fun k => abacistref04_Same.l0.eq_2 ..) ?_
      simp -implicitDefEqProofs only [Int.lt_irrefl, if_false]
      exact Ev.now _
    · have hne : a ≠ b := fun e => h2 (by rw [e])
      rw [decide_eq_false hne]
      refine Ev_loop m (fun k i => abacistref04_Same.l0 k a b (i : Int)) ?_ (fun i hi ih => round i (by omega) (h1 i hi) _ ih) 0 (Nat.zero_le _)
      refine Ev.step (fun k => abacistref04_Same.l0.eq_2 ..) ?_
      have c1 : (m : Int) < (a.length : Int) := by omega
      have c2 : (0 : Int) ≤ (m : Int) := by omega
      have c3 : (m : Int) < (b.length : Int) := by omega
      simp -implicitDefEqProofs only [c1, c2, c3, rd_nat, h2, if_true, if_false]
      exact Ev.now _
  · have c0 : ¬ (a.length : Int) = (b.length : Int) := by omega
    have hne : a ≠ b := fun e => hl (by rw [e])
    simp -implicitDefEqProofs only [c0, if_false, decide_eq_false hne]
    exact Ev.now _
theorem abacistref04_Same_refl (a : List Int) (ha : a.length < 4294967296) : Ev (fun k => abacistref04_Same.f k a a) true := by
  have := abacistref04_Same_ev a a ha
  rw [decide_eq_true rfl] at this; exact this

theorem ref31_get_eq (l : List Int) (i : Nat) : abacistref31_get.f l (i : Int) = some (l.getD i 0) := by
  unfold abacistref31_get.f
  by_cases c : i < l.length
  · rw [if_pos (by omega), if_pos (by omega), rd_nat]
  · rw [if_neg (by omega), List.getD_eq_getElem?_getD, List.getElem?_eq_none (by omega)]; rfl

theorem trz_snoc (l : List Int) (d : Int) : trz (l ++ [d]) = if d = 0 then trz l else l ++ [d] := by
  induction l with
  | nil =>
    show (if trz [] = [] ∧ d = 0 then [] else d :: trz []) = _
    by_cases c : d = 0
    · rw [if_pos ⟨rfl, c⟩, if_pos c]; rfl
    · rw [if_neg (fun h => c h.2), if_neg c]; rfl
  | cons x t ih =>
    rw [List.cons_append, trz_cons, ih]
    by_cases c : d = 0
    · rw [if_pos c, if_pos c, trz_cons]
    · rw [if_neg c, if_neg c, if_neg (fun h => by have := h.1; simp at this)]
theorem take_snoc {l : List Int} {i : Nat} (h : i < l.length) : l.take (i + 1) = l.take i ++ [l.getD i 0] := by
  rw [List.take_add_one, List.getD_eq_getElem?_getD, List.getElem?_eq_getElem h]; rfl
theorem ref31_trim_ev {l : List Int} (hl : l.length < 4294967296) : Ev (fun k => abacistref31_trim.f k l) (trz l) := by
  unfold abacistref31_trim.f
  have key : ∀ (d i : Nat), i + d = l.length → Ev (fun k => abacistref31_trim.l0 k l ((trz (l.take i)).length : Int) (i : Int)) (trz l) := by
    intro d
    induction d with
    | zero =>
      intro i hi
      obtain rfl : i = l.length := by omega
      refine Ev.step (fun k => abacistref31_trim.l0.eq_2 ..) ?_
      have h1 := trz_length l
      rw [List.take_length]
      simp -implicitDefEqProofs only [Int.lt_irrefl, if_false, Option.bind_some, show (0 : Int) ≤ ((trz l).length : Int) by omega, if_true, show ((trz l).length : Int) ≤ (l.length : Int) by omega, Int.toNat_natCast, trz_take, List.length_nil, List.nil_append, show 0 + (trz l).length < 17592186044416 by omega]
      exact Ev.now _
    | succ d ih =>
      intro i hi
      have ih := ih (i + 1) (by omega)
      rw [take_snoc (show i < l.length by omega), trz_snoc] at ih
      refine Ev.step (fun k => abacistref31_trim.l0.eq_2 ..) ?_
      simp -implicitDefEqProofs only [show (i : Int) < (l.length : Int) by omega, if_true, show (0 : Int) ≤ (i : Int) by omega, rd_nat, nat64_succ (show i < 9223372036854775807 by omega)]
      by_cases c : l.getD i 0 = 0
      · rw [if_pos c] at ih
        simp -implicitDefEqProofs only [c, if_true]
        exact ih
      · rw [if_neg c, List.length_append, List.length_singleton, List.length_take, Nat.min_eq_left (by omega)] at ih
        simp -implicitDefEqProofs only [c, if_false]
        exact ih
  exact key l.length 0 (by omega)
theorem ref31_trim_dgs {l : List Int} (h : Dg l) (hl : l.length < 4294967296) : Ev (fun k => abacistref31_trim.f k l) (dgs (nv l)) := by
  rw [← trz_dgs h]; exact ref31_trim_ev hl

theorem ref31_Small_ev {a : List Int} (ha : Dg a) (hla : a.length < 1073741824) {n c : Nat} (hn : n < 65536) (hc : c < 65536) : Ev (fun k => abacistref31_Small.f k a (n : Int) (c : Int)) (dgs (nv a * n + c)) := by
  unfold abacistref31_Small.f
  have stop : ∀ (i : Nat) (o : List Int), a.length ≤ i → Dg o → o.length = i → i ≤ 2147483648 → nv o = ns i (dgt a) * n + c → Ev (fun k => abacistref31_Small.l0 k a (n : Int) 0 o (i : Int)) (dgs (nv a * n + c)) := by
    intro i o hi ho hol hlt hv
    refine Ev.step (fun k => abacistref31_Small.l0.eq_2 ..) ?_
    simp -implicitDefEqProofs only [show ¬ (i : Int) < (a.length : Int) by omega, if_false, show ¬ ((0 : Int) > 0) by decide]
    rw [ns_dgt (by omega)] at hv
    rw [← hv]
    refine Ev.bind (ref31_trim_dgs ho (by omega)) ?_
    exact Ev.now _
  have hs : ∀ (i e : Nat), e < 65536 → dgt a i * n + e < 4294967296 := fun i e he => by
    have h1 := dgt_lt ha i
    have := Nat.mul_le_mul (show dgt a i ≤ 65535 by omega) (show n ≤ 65535 by omega)
    omega
  have w1 : ∀ i : Nat, IntKind.u64.wrap ((dgt a i : Int) * (n : Int)) = ((dgt a i * n : Nat) : Int) := fun i => by rw [← Int.natCast_mul]; exact wu64_nat (by have := hs i 0 (by decide); omega)
  have w2 : ∀ (i e : Nat), e < 65536 → IntKind.u64.wrap (((dgt a i * n : Nat) : Int) + (e : Int)) = ((dgt a i * n + e : Nat) : Int) := fun i e he => by rw [← Int.natCast_add]; exact wu64_nat (by have := hs i e he; omega)
  have vv : ∀ (i e : Nat) (o : List Int), o.length = i → nv o + e * 65536 ^ i = ns i (dgt a) * n + c → nv (o ++ [(((dgt a i * n + e) % 65536 : Nat) : Int)]) + (dgt a i * n + e) / 65536 * 65536 ^ (i + 1) = ns (i + 1) (dgt a) * n + c := by
    intro i e o hol hv
    rw [nv_snoc, hol, Nat.pow_succ, Int.toNat_natCast, carry_step _ _ _ _ rfl, ns_snoc]
    rw [show nv o + (dgt a i * n + e) * 65536 ^ i = (nv o + e * 65536 ^ i) + dgt a i * n * 65536 ^ i by grind, hv]
    grind
  have key : ∀ (d i e : Nat) (o : List Int), i + d = a.length → e < 65536 → Dg o → o.length = i → nv o + e * 65536 ^ i = ns i (dgt a) * n + c → Ev (fun k => abacistref31_Small.l0 k a (n : Int) (e : Int) o (i : Int)) (dgs (nv a * n + c)) := by
    intro d
    induction d with
    | zero =>
      intro i e o hi he ho hol hv
      by_cases e0 : e = 0
      · subst e0
        exact stop i o (by omega) ho hol (by omega) (by omega)
      · have h0 : dgt a i = 0 := dgt_out (by omega)
        have hv2 := vv i e o hol hv
        have hg := hs i e he
        rw [h0, Nat.zero_mul, Nat.zero_add, show e / 65536 = 0 by omega, Nat.zero_mul, Nat.add_zero, show e % 65536 = e by omega] at hv2
        refine Ev.step (fun k => abacistref31_Small.l0.eq_2 ..) ?_
        have w3 := w2 i e he
        have w4 := w1 i
        rw [h0, Nat.zero_mul, Nat.zero_add] at w3
        rw [h0, Nat.zero_mul] at w4
        have t1 : Int.tmod (e : Int) 65536 = (e : Int) := by rw [tm16, show e % 65536 = e by omega]
        have t2 : Int.tdiv (e : Int) 65536 = 0 := by rw [td16, show e / 65536 = 0 by omega]; rfl
        have t3 : IntKind.u64.wrap 0 = 0 := by decide
        simp -implicitDefEqProofs only [show ¬ (i : Int) < (a.length : Int) by omega, if_false, show (e : Int) > 0 by omega, if_true, ref31_get_eq, getD_dgt ha, h0, Option.bind_some, show o.length < 17592186044416 by omega, w4, w3, t1, t2, t3, nat64_succ (show i < 9223372036854775807 by omega)]
        exact stop (i + 1) (o ++ [(e : Int)]) (by omega) (Dg_append ho (Dg_one (by omega) (by omega))) (by rw [List.length_append, List.length_singleton, hol]) (by omega) hv2
    | succ d ih =>
      intro i e o hi he ho hol hv
      have hg := hs i e he
      refine Ev.step (fun k => abacistref31_Small.l0.eq_2 ..) ?_
      simp -implicitDefEqProofs only [show (i : Int) < (a.length : Int) by omega, if_true, ref31_get_eq, getD_dgt ha, Option.bind_some, show o.length < 17592186044416 by omega, w1, w2 i e he, tm16, td16, wu64_nat (show (dgt a i * n + e) / 65536 < 18446744073709551616 by omega), nat64_succ (show i < 9223372036854775807 by omega)]
      exact ih (i + 1) ((dgt a i * n + e) / 65536) _ (by omega) (by omega) (Dg_append ho (Dg_one (by omega) (by omega))) (by rw [List.length_append, List.length_singleton, hol]) (vv i e o hol hv)
  have := key a.length 0 c [] (by omega) hc Dg_nil rfl (by show 0 + c * 1 = 0 * n + c; omega)
  exact this

theorem ref31_Read_ev {s : ByteArray} (hd : ∀ b ∈ s.data.toList, isd b = true) (hl : s.data.toList.length ≤ 101) : Ev (fun k => abacistref31_Read.f k s) (dgs (va 0 s.data.toList)) := by
  have hsz : s.size = s.data.toList.length := (data_length s).symm
  unfold abacistref31_Read.f
  have key : ∀ d i : Nat, i + d = s.data.toList.length → Ev (fun k => abacistref31_Read.l0 k s (dgs (va 0 (s.data.toList.take i))) (i : Int)) (dgs (va 0 s.data.toList)) := by
    intro d
    induction d with
    | zero =>
      intro i hi
      obtain rfl : i = s.data.toList.length := by omega
      rw [List.take_length]
      refine Ev.step (fun k => abacistref31_Read.l0.eq_2 ..) ?_
      simp -implicitDefEqProofs only [hsz, Int.lt_irrefl, if_false]
      exact Ev.now _
    | succ d ih =>
      intro i hi
      have hil : i < s.data.toList.length := by omega
      have hb := isd_iff.1 (hd _ (List.getElem_mem hil))
      have ih1 := ih (i + 1) (by omega)
      rw [take_va hil] at ih1
      refine Ev.step (fun k => abacistref31_Read.l0.eq_2 ..) ?_
      simp -implicitDefEqProofs only [hsz, show (i : Int) < (s.data.toList.length : Int) by omega, if_true, show (0 : Int) ≤ (i : Int) by omega, bt_nat s hil, nat64_succ (show i < 9223372036854775807 by omega)]
      generalize (s.data.toList[i]'hil).toNat = c at hb ih1
      have ec : IntKind.u64.wrap (IntKind.u64.wrap (c : Int) - 48) = ((c - 48 : Nat) : Int) := by
        rw [wu64_nat (by omega), show (c : Int) - 48 = ((c - 48 : Nat) : Int) by omega, wu64_nat (by omega)]
      rw [ec]
      have hdt : ∀ b ∈ s.data.toList.take i, isd b = true := fun b hb => hd b (List.mem_of_mem_take hb)
      have hlt := va_len hdt (by rw [List.length_take]; omega)
      have hS := ref31_Small_ev (Dg_dgs (va 0 (s.data.toList.take i))) (by omega) (n := 10) (c := c - 48) (by decide) (by omega)
      rw [nv_dgs] at hS
      exact Ev.bind hS ih1
  have h := key _ 0 (Nat.zero_add _)
  rw [List.take_zero] at h
  have e0 : dgs (va 0 []) = [] := dgs_zero
  rw [e0] at h
  exact h

theorem ref04_Digits_l0_ev : ∀ (q n : Nat) (l : List UInt8), n < 10 ^ (q + 1) → n < 18446744073709551616 → l.length + q < 4294967296 → Ev (fun k => abacistref04_Digits.l0 k (n : Int) ⟨l.toArray⟩) ⟨(lst n ++ l).toArray⟩ := by
  intro q
  induction q with
  | zero =>
    intro n l h h2 hl
    have hn : n < 10 := by simpa using h
    refine Ev.step (fun k => abacistref04_Digits.l0.eq_2 ..) ?_
    have e1 : strOfNums [IntKind.u64.wrap (48 + Int.tmod (n : Int) 10) % 256] = ⟨[UInt8.ofNat (48 + n)].toArray⟩ := by
      rw [show Int.tmod (n : Int) 10 = ((n % 10 : Nat) : Int) from rfl, show (48 : Int) + ((n % 10 : Nat) : Int) = ((48 + n : Nat) : Int) by omega, wu64_nat (by omega), show ((48 + n : Nat) : Int) % 256 = ((48 + n : Nat) : Int) by omega]
      rfl
    have e2 : IntKind.u64.wrap (Int.tdiv (n : Int) 10) = 0 := by
      rw [show Int.tdiv (n : Int) 10 = ((n / 10 : Nat) : Int) from rfl, show n / 10 = 0 by omega]; rfl
    have e3 : ((⟨[UInt8.ofNat (48 + n)].toArray⟩ : ByteArray).size + (⟨l.toArray⟩ : ByteArray).size ≤ 9223372036854775807) := by simp [ByteArray.size]; omega
    simp -implicitDefEqProofs only [Option.bind_some, e1, e2, if_true, e3]
    rw [lst_small hn]
    have e4 : (⟨[UInt8.ofNat (48 + n)].toArray⟩ : ByteArray) ++ ⟨l.toArray⟩ = ⟨([UInt8.ofNat (48 + n)] ++ l).toArray⟩ := by apply ByteArray.ext; simp
    rw [e4]
    exact Ev.now _
  | succ q ih =>
    intro n l h h2 hl
    refine Ev.step (fun k => abacistref04_Digits.l0.eq_2 ..) ?_
    have e1 : strOfNums [IntKind.u64.wrap (48 + Int.tmod (n : Int) 10) % 256] = ⟨[UInt8.ofNat (48 + n % 10)].toArray⟩ := by
      rw [show Int.tmod (n : Int) 10 = ((n % 10 : Nat) : Int) from rfl, show (48 : Int) + ((n % 10 : Nat) : Int) = ((48 + n % 10 : Nat) : Int) by omega, wu64_nat (by omega), show ((48 + n % 10 : Nat) : Int) % 256 = ((48 + n % 10 : Nat) : Int) by omega]
      rfl
    have e2 : IntKind.u64.wrap (Int.tdiv (n : Int) 10) = ((n / 10 : Nat) : Int) := by
      rw [show Int.tdiv (n : Int) 10 = ((n / 10 : Nat) : Int) from rfl]; exact wu64_nat (by omega)
    have e3 : ((⟨[UInt8.ofNat (48 + n % 10)].toArray⟩ : ByteArray).size + (⟨l.toArray⟩ : ByteArray).size ≤ 9223372036854775807) := by simp [ByteArray.size]; omega
    have e4 : (⟨[UInt8.ofNat (48 + n % 10)].toArray⟩ : ByteArray) ++ ⟨l.toArray⟩ = ⟨([UInt8.ofNat (48 + n % 10)] ++ l).toArray⟩ := by apply ByteArray.ext; simp
    simp -implicitDefEqProofs only [Option.bind_some, e1, e2, e3, if_true, e4]
    by_cases c : n < 10
    · simp -implicitDefEqProofs only [if_pos (show ((n / 10 : Nat) : Int) = 0 by omega)]
      rw [lst_small c, show n % 10 = n by omega]
      exact Ev.now _
    · simp -implicitDefEqProofs only [if_neg (show ¬ ((n / 10 : Nat) : Int) = 0 by omega)]
      rw [lst_big c, List.append_assoc]
      exact ih (n / 10) _ (by rw [Nat.pow_succ] at h; exact Nat.div_lt_of_lt_mul (by rw [Nat.mul_comm]; exact h)) (by omega) (by rw [List.length_append, List.length_singleton]; omega)
theorem ref04_Digits_ev {n : Nat} (h : n < 18446744073709551616) : Ev (fun k => abacistref04_Digits.f k (n : Int)) (txt n) := by
  have h1 := ref04_Digits_l0_ev 19 n [] (by omega) h (by simp)
  rw [List.append_nil, ← txt_lst] at h1
  exact h1

theorem ref31_Good_ev {l : List Int} (hu : UL l) (hl : l.length < 4294967296) : Ev (fun k => abacistref31_Good.f k l) (hk_good l) := by
  have last : hk_big l = false → Ev (fun k => abacistref31_Good.l0 k l (l.length : Int)) (hk_good l) := fun hb => by
    refine Ev.step (fun k => abacistref31_Good.l0.eq_2 ..) ?_
    simp -implicitDefEqProofs only [Int.lt_irrefl, if_false]
    unfold hk_good
    by_cases c1 : 65536 < l.length
    · simp -implicitDefEqProofs only [show ¬ (l.length : Int) ≤ 65536 by omega, if_false, c1, if_true]
      exact Ev.now _
    · simp -implicitDefEqProofs only [show (l.length : Int) ≤ 65536 by omega, if_true, c1, if_false]
      by_cases c2 : l.length = 0
      · simp -implicitDefEqProofs only [show (l.length : Int) = 0 by omega, if_true, show ¬ (0 < l.length ∧ rd l ((0 : Int) - 1) = 0) by omega, if_false, hb]
        exact Ev.now _
      · simp -implicitDefEqProofs only [show ¬ (l.length : Int) = 0 by omega, if_false, len64 (show l.length < 9223372036854775807 by omega), show (0 : Int) ≤ (l.length : Int) - 1 by omega, if_true, show (l.length : Int) - 1 < (l.length : Int) by omega]
        by_cases c3 : rd l ((l.length : Int) - 1) = 0
        · rw [if_pos ⟨by omega, c3⟩, c3]
          exact Ev.now _
        · rw [if_neg (fun h => c3 h.2), hb, show (rd l ((l.length : Int) - 1) != 0) = true from bne_iff_ne.2 c3]
          exact Ev.now _
  have bad : ∀ i, i < l.length → ¬ l.getD i 0 < 65536 → hk_good l = false := fun i hi h => by
    rcases hg : hk_good l with _ | _
    · rfl
    · have := Dg_getD ((hk_good_iff hu).1 hg).1.Dg i
      omega
  unfold abacistref31_Good.f
  have key : ∀ (d i : Nat), i + d = l.length → (∀ j, j < i → l.getD j 0 < 65536) → Ev (fun k => abacistref31_Good.l0 k l (i : Int)) (hk_good l) := by
    intro d
    induction d with
    | zero =>
      intro i hi h
      obtain rfl : i = l.length := by omega
      refine last ((hk_big_false hu).2 (fun x hx => ?_))
      obtain ⟨j, hj, rfl⟩ := List.mem_iff_getElem.1 hx
      have h1 := h j hj
      have h2 := hu _ hx
      rw [List.getD_eq_getElem?_getD, List.getElem?_eq_getElem hj] at h1
      exact ⟨h2.1, h1⟩
    | succ d ih =>
      intro i hi h
      refine Ev.step (fun k => abacistref31_Good.l0.eq_2 ..) ?_
      simp -implicitDefEqProofs only [show (i : Int) < (l.length : Int) by omega, if_true, show (0 : Int) ≤ (i : Int) by omega, rd_nat]
      by_cases c : l.getD i 0 ≥ 65536
      · simp -implicitDefEqProofs only [c, if_true]
        rw [bad i (by omega) (by omega)]
        exact Ev.now _
      · simp -implicitDefEqProofs only [c, if_false, nat64_succ (show i < 9223372036854775807 by omega)]
        refine ih (i + 1) (by omega) (fun j hj => ?_)
        rcases Nat.lt_or_ge j i with g | g
        · exact h j g
        · obtain rfl : j = i := by omega
          omega
  exact key l.length 0 (by omega) (fun j hj => absurd hj (by omega))

end Go.Proofs.YtaiahgnkgbfcfaaDoor.BNaturalTexts
