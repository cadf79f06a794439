/- What each function of the law NaturalDivides answers, in the field's own words: plain contracts over the printed functions. -/
import Derived.Test.YtaiahgnkgbfcfaaPNaturalDividesx0
import Derived.Test.YtaiahgnkgbfcfaaPNaturalDividesx1
import Derived.Test.YtaiahgnkgbfcfaaPNaturalDividesx2
import Derived.Test.YtaiahgnkgbfcfaaPNaturalDividesx3
import Derived.Test.YtaiahgnkgbfcfaaPNaturalDividesx4
import Derived.Test.YtaiahgnkgbfcfaaPNaturalDividesx5
import Derived.Test.YtaiahgnkgbfcfaaPNaturalDividesx6
import Derived.Test.YtaiahgnkgbfcfaaPNaturalDividesx7
import Derived.Test.YtaiahgnkgbfcfaaPNaturalDividesx8
import Derived.Test.YtaiahgnkgbfcfaaPNaturalDividesx9
import Derived.Test.YtaiahgnkgbfcfaaPNaturalDividesx10
import Derived.Test.YtaiahgnkgbfcfaaPNaturalDividesx11
import Derived.Test.YtaiahgnkgbfcfaaMNaturalDivides
namespace Go.Proofs.Ytaiahgnkgbfcfaa.BNaturalDivides
set_option linter.unusedVariables false
set_option linter.unusedSimpArgs false
open Go Go.RowKit Go.Proofs.Ytaiahgnkgbfcfaa.M Go.Proofs.Ytaiahgnkgbfcfaa.PNaturalDivides Go.Proofs.YtaiahgnkgbfcfaaW.PrintWords Go.Proofs.YtaiahgnkgbfcfaaW.PrintLast Go.Proofs.YtaiahgnkgbfcfaaW.PrintMore
def U (a : Int) : Prop := 0 ≤ a ∧ a < 18446744073709551616
theorem U_un (x : F) : U (un x) := ⟨un_lo x, by have := un_hi x; omega⟩
theorem U_of_wf {a : Int} (h : (Lit.int .u64 a).wf = true) : U a := by
  simp [Lit.wf, IntKind.min, IntKind.max, IntKind.signed, IntKind.bits] at h
  exact ⟨by omega, by omega⟩
theorem wu64 (a : Int) : IntKind.u64.wrap a = a % 18446744073709551616 := by simp [IntKind.wrap, IntKind.bits, IntKind.signed]
theorem wu64_of {a : Int} (h : U a) : IntKind.u64.wrap a = a := by rw [wu64]; have := h.1; have := h.2; omega
theorem U_wrap (a : Int) : U (IntKind.u64.wrap a) := by rw [wu64]; exact ⟨by omega, by omega⟩
theorem and_low {a : Int} (h : U a) : Go.bits .and .u64 a 4294967295 = a % 4294967296 := by
  have := bits_mask .u64 64 (by decide) (fun n h0 h1 => by rw [wu64]; omega) 32 (by decide) a h.1 (by have := h.2; omega)
  simpa using this
theorem and_one {a : Int} (h : U a) : Go.bits .and .u64 a 1 = a % 2 := by
  have := bits_mask .u64 64 (by decide) (fun n h0 h1 => by rw [wu64]; omega) 1 (by decide) a h.1 (by have := h.2; omega)
  simpa using this
theorem wrap64_of {a : Int} (h0 : -9223372036854775808 ≤ a) (h1 : a < 9223372036854775808) : wrap64 a = a := by unfold wrap64; omega
/-- Rows of words. -/
def UL (l : List Int) : Prop := ∀ x ∈ l, U x
theorem UL_of_wf {l : List Int} (h : ∀ x ∈ l, (Lit.int .u64 x).wf = true) : UL l := fun x hx => U_of_wf (h x hx)
theorem U_zero : U 0 := ⟨by omega, by omega⟩
theorem U_one : U 1 := ⟨by omega, by omega⟩
theorem U_getD {l : List Int} (h : UL l) (i : Nat) : U (l.getD i 0) := by
  rw [List.getD_eq_getElem?_getD]
  by_cases hi : i < l.length
  · rw [List.getElem?_eq_getElem hi]; exact h _ (List.getElem_mem hi)
  · rw [List.getElem?_eq_none (by omega)]; exact U_zero
theorem U_rd {l : List Int} (h : UL l) (i : Int) : U (rd l i) := U_getD h _
theorem UL_tab (m : Nat) (f : Nat → F) : UL (tab m f) := by
  intro x hx
  unfold tab at hx
  obtain ⟨j, _, rfl⟩ := List.mem_map.1 hx
  exact U_un _
theorem UL_nil : UL [] := fun x hx => by cases hx
theorem rd_nat (l : List Int) (i : Nat) : rd l (i : Int) = l.getD i 0 := by unfold rd; rw [Int.toNat_natCast]
theorem cv_rd (l : List Int) (i : Nat) : cv (rd l (i : Int)) = co l i := by rw [rd_nat]; rfl
theorem rd_tab {m : Nat} {f : Nat → F} {i : Nat} (h : i < m) : rd (tab m f) (i : Int) = un (f i) := by rw [rd_nat, tab_getD m f i h]
theorem nat64_succ {i : Nat} (h : i < 9223372036854775807) : wrap64 ((i : Int) + 1) = ((i + 1 : Nat) : Int) := by unfold wrap64; omega
/-- A loop that counts up. -/
theorem Ev_loop {α : Type} {r : α} (n : Nat) (g : Nat → Nat → Option α) (last : Ev (fun k => g k n) r) (step : ∀ i, i < n → Ev (fun k => g k (i + 1)) r → Ev (fun k => g k i) r) (i : Nat) (hi : i ≤ n) : Ev (fun k => g k i) r := by
  have key : ∀ d i, i + d = n → Ev (fun k => g k i) r := by
    intro d
    induction d with
    | zero => intro i hi; obtain rfl : i = n := by omega
              exact last
    | succ d ih => intro i hi; exact step i (by omega) (ih (i + 1) (by omega))
  exact key (n - i) i (by omega)
theorem down_at (i : Nat) : (((i + 1 : Nat) : Int) - 1) = (i : Int) := by omega
theorem down_next {i : Nat} (h : i < 9223372036854775807) : wrap64 ((i : Int) - 1) = (i : Int) - 1 := by unfold wrap64; omega
theorem len64 {n : Nat} (h : n < 9223372036854775807) : wrap64 ((n : Int) - 1) = (n : Int) - 1 := by unfold wrap64; omega
theorem U_nat {n : Nat} (h : n < 18446744073709551616) : U (n : Int) := ⟨Int.natCast_nonneg _, by omega⟩
theorem two_pow_lt {n m : Nat} (h : n ≤ m) : 2 ^ n ≤ 2 ^ m := Nat.pow_le_pow_right (by omega) h
theorem U_two_pow {n : Nat} (h : n ≤ 63) : U ((2 ^ n : Nat) : Int) := U_nat (by have := two_pow_lt h; omega)
theorem i64wrap (a : Int) : IntKind.i64.wrap a = wrap64 a := by rw [IntKind.wrap_i64]; unfold wrap64; rfl
theorem int_two_pow (n : Nat) : ((2 : Int) ^ n) = ((2 ^ n : Nat) : Int) := by simp
theorem shl_i64 {n : Nat} (h : n ≤ 62) : shl .i64 1 (IntKind.u64.wrap (n : Int)) = ((2 ^ n : Nat) : Int) := by
  have hu : IntKind.u64.wrap (n : Int) = (n : Int) := wu64_of ⟨by omega, by omega⟩
  unfold shl
  rw [hu, Int.toNat_natCast, Nat.min_eq_left (by rw [show IntKind.i64.bits = 64 from rfl]; omega), i64wrap, Int.one_mul, int_two_pow]
  have := two_pow_lt (n := n) (m := 62) h
  generalize 2 ^ n = q at *
  rw [wrap64_of (by omega) (by omega)]
theorem shl_u64 {n : Nat} (h : n ≤ 63) : shl .u64 1 (IntKind.u64.wrap (n : Int)) = ((2 ^ n : Nat) : Int) := by
  have hu : IntKind.u64.wrap (n : Int) = (n : Int) := wu64_of ⟨by omega, by omega⟩
  unfold shl
  rw [hu, Int.toNat_natCast, Nat.min_eq_left (by rw [show IntKind.u64.bits = 64 from rfl]; omega), Int.one_mul, int_two_pow]
  have := two_pow_lt (n := n) (m := 63) h
  generalize 2 ^ n = q at *
  exact wu64_of ⟨by omega, by omega⟩
theorem getD_take {l : List Int} {d i : Nat} (h : i < d) : (l.take d).getD i 0 = l.getD i 0 := by
  rw [List.getD_eq_getElem?_getD, List.getD_eq_getElem?_getD, List.getElem?_take, if_pos h]
theorem UL_take {l : List Int} (h : UL l) (d : Nat) : UL (l.take d) := fun x hx => h x (List.mem_of_mem_take hx)
theorem co_take {l : List Int} {d i : Nat} (h : i < d) : co (l.take d) i = co l i := by unfold co; rw [getD_take h]
theorem UL_tr (m : Nat) (f : Nat → F) : UL (tr m f) := UL_tab _ _
theorem add64 {a b : Nat} (h : a + b < 9223372036854775808) : wrap64 ((a : Int) + (b : Int)) = ((a + b : Nat) : Int) := by unfold wrap64; omega
theorem UL_cons {a : Int} {l : List Int} (h : U a) (hl : UL l) : UL (a :: l) := by
  intro x hx
  rcases List.mem_cons.1 hx with rfl | hx
  · exact h
  · exact hl x hx
theorem first_diff (a b : List Int) (n : Nat) : (∀ i, i < n → a.getD i 0 = b.getD i 0) ∨ ∃ m, m < n ∧ (∀ i, i < m → a.getD i 0 = b.getD i 0) ∧ a.getD m 0 ≠ b.getD m 0 := by
  induction n with
  | zero => exact .inl (fun i hi => by omega)
  | succ n ih =>
    rcases ih with h | ⟨m, hm, h1, h2⟩
    · by_cases c : a.getD n 0 = b.getD n 0
      · refine .inl (fun i hi => ?_)
        by_cases e : i = n
        · rw [e]; exact c
        · exact h i (by omega)
      · exact .inr ⟨n, by omega, h, c⟩
    · exact .inr ⟨m, by omega, h1, h2⟩
theorem same_of_getD {a b : List Int} (hl : a.length = b.length) (h : ∀ i, i < a.length → a.getD i 0 = b.getD i 0) : a = b := by
  apply List.ext_getElem hl
  intro i h1 h2
  have := h i h1
  rw [List.getD_eq_getElem?_getD, List.getD_eq_getElem?_getD, List.getElem?_eq_getElem h1, List.getElem?_eq_getElem h2] at this
  simpa using this
theorem abacistref04_Same_ev (a b : List Int) (ha : a.length < 4294967296) : Ev (fun k => abacistref04_Same.f k a b) (decide (a = b)) := by
  unfold abacistref04_Same.f
  by_cases hl : a.length = b.length
  · have c0 : (a.length : Int) = (b.length : Int) := by omega
    have round : ∀ i, i < a.length → a.getD i 0 = b.getD i 0 → ∀ r : Bool, Ev (fun k => abacistref04_Same.l0 k a b ((i + 1 : Nat) : Int)) r → Ev (fun k => abacistref04_Same.l0 k a b (i : Int)) r := by
      intro i hi he r ih
      refine Ev.step (fun k => abacistref04_Same.l0.eq_2 ..) ?_
      have c1 : (i : Int) < (a.length : Int) := by omega
      have c2 : (0 : Int) ≤ (i : Int) := by omega
      have c3 : (i : Int) < (b.length : Int) := by omega
      simp -implicitDefEqProofs only [c1, c2, c3, rd_nat, he, if_true, nat64_succ (show i < 9223372036854775807 by omega)]
      exact ih
    simp -implicitDefEqProofs only [c0, if_true]
    rcases first_diff a b a.length with h | ⟨m, hm, h1, h2⟩
    · rw [decide_eq_true (same_of_getD hl h)]
      refine Ev_loop a.length (fun k i => abacistref04_Same.l0 k a b (i : Int)) ?_ (fun i hi ih => round i hi (h i hi) _ ih) 0 (Nat.zero_le _)
      refine Ev.step (fun k => abacistref04_Same.l0.eq_2 ..) ?_
      simp -implicitDefEqProofs only [Int.lt_irrefl, if_false]
      exact Ev.now _
    · have hne : a ≠ b := fun e => h2 (by rw [e])
      rw [decide_eq_false hne]
      refine Ev_loop m (fun k i => abacistref04_Same.l0 k a b (i : Int)) ?_ (fun i hi ih => round i (by omega) (h1 i hi) _ ih) 0 (Nat.zero_le _)
      refine Ev.step (fun k => abacistref04_Same.l0.eq_2 ..) ?_
      have c1 : (m : Int) < (a.length : Int) := by omega
      have c2 : (0 : Int) ≤ (m : Int) := by omega
      have c3 : (m : Int) < (b.length : Int) := by omega
      simp -implicitDefEqProofs only [c1, c2, c3, rd_nat, h2, if_true, if_false]
      exact Ev.now _
  · have c0 : ¬ (a.length : Int) = (b.length : Int) := by omega
    have hne : a ≠ b := fun e => hl (by rw [e])
    simp -implicitDefEqProofs only [c0, if_false, decide_eq_false hne]
    exact Ev.now _
theorem abacistref04_Same_refl (a : List Int) (ha : a.length < 4294967296) : Ev (fun k => abacistref04_Same.f k a a) true := by
  have := abacistref04_Same_ev a a ha
  rw [decide_eq_true rfl] at this; exact this

theorem tm16 (n : Nat) : Int.tmod (n : Int) 65536 = ((n % 65536 : Nat) : Int) := by rw [Int.tmod_eq_emod_of_nonneg (by omega)]; omega
theorem td16 (n : Nat) : Int.tdiv (n : Int) 65536 = ((n / 65536 : Nat) : Int) := by rw [Int.tdiv_eq_ediv_of_nonneg (by omega)]; omega
theorem wu64_nat {n : Nat} (h : n < 18446744073709551616) : IntKind.u64.wrap (n : Int) = (n : Int) := wu64_of (U_nat h)
theorem Dg_UL {l : List Int} (h : Dg l) : UL l := fun x hx => by have := h x hx; exact ⟨by omega, by omega⟩
/-- A row of words that is a right number. -/
theorem hk_big_false {l : List Int} (hu : UL l) : hk_big l = false ↔ Dg l := by
  unfold hk_big
  rw [List.any_eq_false]
  constructor
  · intro h x hx
    have h1 := h x hx
    have h2 := hu x hx
    exact ⟨h2.1, by simpa using h1⟩
  · intro h x hx
    have h1 := h x hx
    simp only [decide_eq_true_eq]
    omega
theorem rd_last {l : List Int} (h : 0 < l.length) : rd l ((l.length : Int) - 1) = l.getD (l.length - 1) 0 := by
  rw [show (l.length : Int) - 1 = ((l.length - 1 : Nat) : Int) by omega, rd_nat]
theorem hk_good_iff {l : List Int} (hu : UL l) : hk_good l = true ↔ Nt l ∧ l.length ≤ 65536 := by
  unfold hk_good
  by_cases c1 : 65536 < l.length
  · rw [if_pos c1]
    exact ⟨fun h => (by cases h), fun h => absurd h.2 (by omega)⟩
  rw [if_neg c1]
  by_cases c2 : 0 < l.length ∧ rd l ((l.length : Int) - 1) = 0
  · rw [if_pos c2]
    refine ⟨fun h => (by cases h), fun h => ?_⟩
    rw [rd_last c2.1] at c2
    exact absurd c2.2 (h.1.last (by omega))
  rw [if_neg c2]
  have e : (!hk_big l) = true ↔ Dg l := by rw [← hk_big_false hu]; cases hk_big l <;> simp
  rw [e]
  constructor
  · intro h
    refine ⟨Nt_of h (fun i hi e0 => c2 ⟨by omega, ?_⟩), by omega⟩
    rw [rd_last (by omega), show l.length - 1 = i by omega]
    exact e0
  · intro h; exact h.1.Dg
theorem natural_Good_eq (l : List Int) : natural_Good.f l = some (hk_good l) := rfl
theorem Nt_good {l : List Int} (h : Nt l) (hl : l.length ≤ 65536) : hk_good l = true := (hk_good_iff (Dg_UL h.Dg)).2 ⟨h, hl⟩

theorem natural_fits_eq {l : List Int} (h : l.length ≤ 65536) : natural_fits.f l = some (l, 0) := by
  unfold natural_fits.f
  rw [if_neg (by omega)]

theorem hk_tl_trz (l : List Int) : ∀ n, (trz l).length ≤ n → hk_tl l n = (trz l).length
  | 0, h => by
    have e : (trz l).length = 0 := by omega
    rw [e]; rfl
  | n + 1, h => by
    unfold hk_tl
    by_cases c : l.getD n 0 = 0
    · rw [if_pos c]
      refine hk_tl_trz l n ?_
      rcases Nat.lt_or_ge (trz l).length (n + 1) with d | d
      · omega
      · exact absurd c (trz_last (by omega))
    · rw [if_neg c]
      rcases Nat.lt_or_ge (trz l).length (n + 1) with d | d
      · exact absurd (trz_above (by omega)) c
      · omega
theorem natural_trim_eq (l : List Int) : natural_trim.f l = some (trz l) := by
  unfold natural_trim.f
  rw [hk_tl_trz l _ (trz_length l), trz_take]
theorem natural_trim_dgs {l : List Int} (h : Dg l) : natural_trim.f l = some (dgs (nv l)) := by rw [natural_trim_eq, trz_dgs h]

theorem carry_step (o p c : Nat) (x : Nat) (h : o = x) : o + p * (c % 65536) + c / 65536 * (p * 65536) = x + c * p := by
  subst h
  have := Nat.div_add_mod c 65536
  generalize c / 65536 = q at *
  generalize c % 65536 = r at *
  subst this
  grind
theorem natural_carry_l1_ev : ∀ (q c : Nat) (o : List Int), c < 65536 ^ q → c < 9223372036854775808 → Dg o → o.length + q < 8589934592 → Ev (fun k => natural_carry.l1 k o (c : Int)) (dgs (nv o + c * 65536 ^ o.length))
  | 0, c, o, h, _, ho, _ => by
    obtain rfl : c = 0 := by simpa using h
    refine Ev.step (fun k => natural_carry.l1.eq_2 ..) ?_
    simp -implicitDefEqProofs only [show ¬ ((0 : Nat) : Int) > 0 by decide, if_false, natural_trim_dgs ho, Option.bind_some]
    rw [Nat.zero_mul, Nat.add_zero]
    exact Ev.now _
  | q + 1, c, o, h, h2, ho, hl => by
    by_cases c0 : c = 0
    · subst c0
      refine Ev.step (fun k => natural_carry.l1.eq_2 ..) ?_
      simp -implicitDefEqProofs only [show ¬ ((0 : Nat) : Int) > 0 by decide, if_false, natural_trim_dgs ho, Option.bind_some]
      rw [Nat.zero_mul, Nat.add_zero]
      exact Ev.now _
    · refine Ev.step (fun k => natural_carry.l1.eq_2 ..) ?_
      have ih := natural_carry_l1_ev q (c / 65536) (o ++ [((c % 65536 : Nat) : Int)]) (by rw [Nat.pow_succ] at h; exact Nat.div_lt_of_lt_mul (by rw [Nat.mul_comm]; exact h)) (by omega) (Dg_append ho (Dg_one (by omega) (by omega))) (by rw [List.length_append, List.length_singleton]; omega)
      rw [nv_snoc, List.length_append, List.length_singleton, Nat.pow_succ, Int.toNat_natCast, carry_step _ _ _ _ rfl] at ih
      simp -implicitDefEqProofs only [show (c : Int) > 0 by omega, if_true, show o.length < 17592186044416 by omega, tm16, td16, wu64_nat (show c / 65536 < 18446744073709551616 by omega)]
      exact ih
theorem natural_carry_ev {a : List Int} (h : ∀ x ∈ a, 0 ≤ x ∧ x ≤ 4611686018427387904) (hl : a.length < 4294967296) : Ev (fun k => natural_carry.f k a) (dgs (nv a)) := by
  unfold natural_carry.f
  have key : ∀ (d i c : Nat) (o : List Int), i + d = a.length → c ≤ 4611686018427387904 → Dg o → o.length = i → nv o + c * 65536 ^ i = ns i (fun j => (a.getD j 0).toNat) → Ev (fun k => natural_carry.l0 k o (c : Int) a (a.length : Int) (i : Int)) (dgs (nv a)) := by
    intro d
    induction d with
    | zero =>
      intro i c o hi hc ho hol hv
      obtain rfl : i = a.length := by omega
      refine Ev.step (fun k => natural_carry.l0.eq_2 ..) ?_
      simp -implicitDefEqProofs only [Int.lt_irrefl, if_false]
      rw [nv_ns, ← hol] at hv
      rw [← hv]
      exact natural_carry_l1_ev 4 c o (by omega) (by omega) ho (by omega)
    | succ d ih =>
      intro i c o hi hc ho hol hv
      have hx : 0 ≤ a.getD i 0 ∧ a.getD i 0 ≤ 4611686018427387904 := by
        rw [List.getD_eq_getElem?_getD, List.getElem?_eq_getElem (show i < a.length by omega)]
        exact h _ (List.getElem_mem _)
      obtain ⟨x, hxe⟩ := Int.eq_ofNat_of_zero_le hx.1
      have er : (c : Int) + rd a (i : Int) = ((c + x : Nat) : Int) := by rw [rd_nat, hxe]; omega
      refine Ev.step (fun k => natural_carry.l0.eq_2 ..) ?_
      simp -implicitDefEqProofs only [show (i : Int) < (a.length : Int) by omega, show (0 : Int) ≤ (i : Int) by omega, if_true, show o.length < 17592186044416 by omega, er, wu64_nat (show c + x < 18446744073709551616 by omega), tm16, td16, wu64_nat (show (c + x) / 65536 < 18446744073709551616 by omega), nat64_succ (show i < 9223372036854775807 by omega)]
      refine ih (i + 1) ((c + x) / 65536) (o ++ [(((c + x) % 65536 : Nat) : Int)]) (by omega) (by omega) (Dg_append ho (Dg_one (by omega) (by omega))) (by rw [List.length_append, List.length_singleton, hol]) ?_
      rw [nv_snoc, hol, Nat.pow_succ, Int.toNat_natCast, carry_step _ _ _ _ rfl]
      show _ = ns i (fun j => (a.getD j 0).toNat) + (a.getD i 0).toNat * 65536 ^ i
      rw [← hv, hxe]
      show _ = nv o + c * 65536 ^ i + x * 65536 ^ i
      grind
  exact key a.length 0 0 [] (by omega) (by omega) Dg_nil rfl rfl

theorem gold_Of_eq {a : Int} (h : U a) : gold_Of.f a = some (un (cv a)) := by
  unfold gold_Of.f
  rw [un_cv]
  have := h.1; have := h.2
  by_cases c : a ≥ 18446744069414584321
  · rw [if_pos c, wu64]; congr 1; omega
  · rw [if_neg c]; congr 1; omega

theorem poly_Degree_l0 {l : List Int} (h : UL l) (hl : l.length < 4294967296) : ∀ i, i ≤ l.length → Ev (fun k => poly_Degree.l0 k l ((i : Int) - 1)) ((dg i (co l) : Int) - 1) := by
  intro i
  induction i with
  | zero =>
    intro _
    refine Ev.step (fun k => poly_Degree.l0.eq_2 ..) ?_
    simp -implicitDefEqProofs only [show ¬ (((0 : Nat) : Int) - 1 ≥ 0) by omega, if_false]
    exact Ev.now _
  | succ i ih =>
    intro hi
    refine Ev.step (fun k => poly_Degree.l0.eq_2 ..) ?_
    have c1 : (i : Int) ≥ 0 := by omega
    have c2 : (i : Int) < (l.length : Int) := by omega
    rw [show dg (i + 1) (co l) = if co l i = 0 then dg i (co l) else i + 1 from rfl]
    simp -implicitDefEqProofs only [down_at, c1, c2, if_true, gold_Of_eq (U_rd h _), Option.bind_some, cv_rd, down_next (show i < 9223372036854775807 by omega)]
    by_cases c : co l i = 0
    · rw [if_pos c, c, un_zero]
      simp -implicitDefEqProofs only [if_true]
      exact ih (by omega)
    · have c' : ¬ un (co l i) = 0 := fun h => c (un_eq_zero.1 h)
      rw [if_neg c, down_at]
      simp -implicitDefEqProofs only [c', if_false]
      exact Ev.now _
theorem poly_Degree_ev {l : List Int} (h : UL l) (hl : l.length < 4294967296) : Ev (fun k => poly_Degree.f k l) ((dg l.length (co l) : Int) - 1) := by
  unfold poly_Degree.f
  rw [down_next (show l.length < 9223372036854775807 by omega)]
  exact poly_Degree_l0 h hl _ (Nat.le_refl _)

theorem poly_Trim_ev {l : List Int} (h : UL l) (hl : l.length < 4294967296) : Ev (fun k => poly_Trim.f k l) (tr l.length (co l)) := by
  unfold poly_Trim.f
  refine Ev.bind (poly_Degree_ev h hl) ?_
  have hd := dg_le l.length (co l)
  have e : wrap64 ((dg l.length (co l) : Int) - 1 + 1) = (dg l.length (co l) : Int) := by rw [wrap64_of (by omega) (by omega)]; omega
  have c1 : (0 : Int) ≤ (dg l.length (co l) : Int) := by omega
  have c2 : (dg l.length (co l) : Int) ≤ (l.length : Int) := by omega
  unfold tr
  generalize dg l.length (co l) = d at *
  have hlen : (l.take d).length = d := by rw [List.length_take]; omega
  simp -implicitDefEqProofs only [e, c1, c2, if_true, Int.toNat_natCast, hlen]
  refine Ev_loop d (fun k i => poly_Trim.l0 k (tab i (co l)) (l.take d) (d : Int) (i : Int)) ?_ (fun i hi ih => ?_) 0 (Nat.zero_le _)
  · refine Ev.step (fun k => poly_Trim.l0.eq_2 ..) ?_
    simp -implicitDefEqProofs only [Int.lt_irrefl, if_false]
    exact Ev.now _
  · refine Ev.step (fun k => poly_Trim.l0.eq_2 ..) ?_
    have c3 : (i : Int) < (d : Int) := by omega
    have c4 : (0 : Int) ≤ (i : Int) := by omega
    have c5 : i < 17592186044416 := by omega
    simp -implicitDefEqProofs only [c3, c4, c5, hlen, tab_length, if_true, gold_Of_eq (U_rd (UL_take h d) _), Option.bind_some, cv_rd, co_take hi, ← tab_succ, nat64_succ (show i < 9223372036854775807 by omega)]
    exact ih

theorem conv_exponent_from {n : Nat} (hn : n ≤ 524288) : ∀ d j : Nat, j + d = 19 → ∃ e : Nat, e ≤ 19 ∧ n ≤ 2 ^ e ∧ Ev (fun k => conv_exponent.l0 k (n : Int) (j : Int)) (e : Int)
  | d, j, h => by
    have hu : IntKind.u64.wrap (j : Int) = (j : Int) := wu64_of ⟨by omega, by omega⟩
    have hs := shl_i64 (n := j) (by omega)
    have hp := two_pow_lt (n := j) (m := 19) (by omega)
    by_cases c : 2 ^ j < n
    · cases d with
      | zero =>
        obtain rfl : j = 19 := by omega
        omega
      | succ d =>
        obtain ⟨e, h1, h2, h3⟩ := conv_exponent_from hn d (j + 1) (by omega)
        refine ⟨e, h1, h2, ?_⟩
        refine Ev.step (fun k => conv_exponent.l0.eq_2 ..) ?_
        have c2 : ((2 ^ j : Nat) : Int) < (n : Int) := Int.ofNat_lt.2 c
        rw [hs, hu]
        simp -implicitDefEqProofs only [show (0 : Int) ≤ (j : Int) by omega, c2, if_true, nat64_succ (show j < 9223372036854775807 by omega)]
        exact h3
    · refine ⟨j, by omega, by omega, ?_⟩
      refine Ev.step (fun k => conv_exponent.l0.eq_2 ..) ?_
      have c2 : ¬ ((2 ^ j : Nat) : Int) < (n : Int) := fun h => c (Int.ofNat_lt.1 h)
      rw [hs, hu]
      simp -implicitDefEqProofs only [show (0 : Int) ≤ (j : Int) by omega, c2, if_true, if_false]
      exact Ev.now _
theorem conv_exponent_ev {n : Nat} (hn : n ≤ 524288) : ∃ e : Nat, e ≤ 19 ∧ n ≤ 2 ^ e ∧ Ev (fun k => conv_exponent.f k (n : Int)) (e : Int) := conv_exponent_from hn 19 0 (by omega)

theorem gold_Reduce_eq {hi lo : Int} (h : U hi) (h2 : U lo) : gold_Reduce.f hi lo = some (un (cv (hi * 18446744073709551616 + lo))) := by
  have e0 := h.1; have e1 := h.2; have e2 := h2.1; have e3 := h2.2
  unfold gold_Reduce.f
  rw [and_low h]
  simp only [wu64]
  have top : hi = 4294967296 * (hi / 4294967296) + hi % 4294967296 := by omega
  generalize hi / 4294967296 = t at *
  generalize hm : hi % 4294967296 = m at *
  have hm0 : 0 ≤ m := by omega
  have hm1 : m < 4294967296 := by omega
  have ht0 : 0 ≤ t := by omega
  have ht1 : t < 4294967296 := by omega
  have e : m * 4294967295 % 18446744073709551616 = m * 4294967295 := by omega
  rw [e]
  by_cases c1 : lo < t
  · rw [if_pos c1]
    have a1 : (lo - t) % 18446744073709551616 = lo - t + 18446744073709551616 := by omega
    rw [a1]
    have a2 : (lo - t + 18446744073709551616 - 4294967295) % 18446744073709551616 = lo - t + 18446744073709551616 - 4294967295 := by omega
    rw [a2]
    by_cases c2 : (lo - t + 18446744073709551616 - 4294967295 + m * 4294967295) % 18446744073709551616 < m * 4294967295
    · have c3 : (lo - t + 18446744073709551616 - 4294967295 + m * 4294967295) % 18446744073709551616 = lo - t - 4294967295 + m * 4294967295 := by omega
      have c4 : (lo - t - 4294967295 + m * 4294967295 + 4294967295) % 18446744073709551616 = lo - t + m * 4294967295 := by omega
      rw [if_pos c2, c3, c4, gold_Of_eq ⟨by omega, by omega⟩]
      simp only [Option.bind_some, Option.some.injEq, un_inj_iff]
      exact cv_of_eq (-(t * 4294967297 + m)) (by omega)
    · have c3 : (lo - t + 18446744073709551616 - 4294967295 + m * 4294967295) % 18446744073709551616 = lo - t + 18446744073709551616 - 4294967295 + m * 4294967295 := by omega
      rw [if_neg c2, c3, gold_Of_eq ⟨by omega, by omega⟩]
      simp only [Option.bind_some, Option.some.injEq, un_inj_iff]
      exact cv_of_eq (-(t * 4294967297 + m) + 1) (by omega)
  · rw [if_neg c1]
    have a1 : (lo - t) % 18446744073709551616 = lo - t := by omega
    rw [a1]
    by_cases c2 : (lo - t + m * 4294967295) % 18446744073709551616 < m * 4294967295
    · have c3 : (lo - t + m * 4294967295) % 18446744073709551616 = lo - t + m * 4294967295 - 18446744073709551616 := by omega
      have c4 : (lo - t + m * 4294967295 - 18446744073709551616 + 4294967295) % 18446744073709551616 = lo - t + m * 4294967295 - 18446744069414584321 := by omega
      rw [if_pos c2, c3, c4, gold_Of_eq ⟨by omega, by omega⟩]
      simp only [Option.bind_some, Option.some.injEq, un_inj_iff]
      exact cv_of_eq (-(t * 4294967297 + m) - 1) (by omega)
    · have c3 : (lo - t + m * 4294967295) % 18446744073709551616 = lo - t + m * 4294967295 := by omega
      rw [if_neg c2, c3, gold_Of_eq ⟨by omega, by omega⟩]
      simp only [Option.bind_some, Option.some.injEq, un_inj_iff]
      exact cv_of_eq (-(t * 4294967297 + m)) (by omega)

theorem mul64_arith (a b : Int) (ha : U a) (hb : U b) :
    IntKind.u64.wrap ((IntKind.u64.wrap ((IntKind.u64.wrap ((a / 4294967296) * (b / 4294967296))) + ((IntKind.u64.wrap ((IntKind.u64.wrap ((a / 4294967296) * (b % 4294967296))) + ((IntKind.u64.wrap ((a % 4294967296) * (b % 4294967296))) / 4294967296))) / 4294967296))) + ((IntKind.u64.wrap ((Go.bits .and .u64 (IntKind.u64.wrap ((IntKind.u64.wrap ((a / 4294967296) * (b % 4294967296))) + ((IntKind.u64.wrap ((a % 4294967296) * (b % 4294967296))) / 4294967296))) 4294967295) + (IntKind.u64.wrap ((a % 4294967296) * (b / 4294967296))))) / 4294967296)) = a * b / 18446744073709551616 := by
  rw [and_low (U_wrap _)]
  simp only [wu64]
  have a0 := ha.1; have a1 := ha.2; have b0 := hb.1; have b1 := hb.2
  have ea : a = 4294967296 * (a / 4294967296) + a % 4294967296 := by omega
  have eb : b = 4294967296 * (b / 4294967296) + b % 4294967296 := by omega
  have x0 : 0 ≤ a / 4294967296 := by omega
  have x1 : a / 4294967296 ≤ 4294967295 := by omega
  have y0 : 0 ≤ b / 4294967296 := by omega
  have y1 : b / 4294967296 ≤ 4294967295 := by omega
  have u0 : 0 ≤ a % 4294967296 := by omega
  have u1 : a % 4294967296 ≤ 4294967295 := by omega
  have v0 : 0 ≤ b % 4294967296 := by omega
  have v1 : b % 4294967296 ≤ 4294967295 := by omega
  generalize a / 4294967296 = x at *
  generalize b / 4294967296 = y at *
  generalize a % 4294967296 = u at *
  generalize b % 4294967296 = v at *
  have key : ∀ p q : Int, 0 ≤ p → p ≤ 4294967295 → 0 ≤ q → q ≤ 4294967295 → 0 ≤ p * q ∧ p * q ≤ 18446744065119617025 := by
    intro p q p0 p1 q0 q1
    refine ⟨Int.mul_nonneg p0 q0, ?_⟩
    have := Int.mul_le_mul p1 q1 q0 (by omega)
    omega
  have hxy := key x y x0 x1 y0 y1
  have hxv := key x v x0 x1 v0 v1
  have huv := key u v u0 u1 v0 v1
  have huy := key u y u0 u1 y0 y1
  have eab : a * b = 18446744073709551616 * (x * y) + 4294967296 * (x * v) + 4294967296 * (u * y) + u * v := by
    rw [ea, eb]; grind
  rw [eab]
  generalize x * y = xy at *
  generalize x * v = xv at *
  generalize u * v = uv at *
  generalize u * y = uy at *
  clear ea eb eab key
  rw [Int.emod_eq_of_lt hxy.1 (by omega), Int.emod_eq_of_lt hxv.1 (by omega), Int.emod_eq_of_lt huv.1 (by omega), Int.emod_eq_of_lt huy.1 (by omega)]
  rw [Int.emod_eq_of_lt (a := xv + uv / 4294967296) (by omega) (by omega)]
  omega
theorem bits_Mul64_eq {a b : Int} (ha : U a) (hb : U b) : bits_Mul64.f a b = some (a * b / 18446744073709551616, a * b % 18446744073709551616) := by
  unfold bits_Mul64.f
  rw [and_low ha, and_low hb, mul64_arith a b ha hb, wu64]

theorem wide_Mul_eq {a b : Int} (ha : U a) (hb : U b) : wide_Mul.f a b = some (a * b / 18446744073709551616, a * b % 18446744073709551616) := by
  unfold wide_Mul.f
  rw [bits_Mul64_eq ha hb]; rfl
theorem U_wide {a b : Int} (ha : U a) (hb : U b) : U (a * b / 18446744073709551616) ∧ U (a * b % 18446744073709551616) := by
  have h0 := Int.mul_nonneg ha.1 hb.1
  have h1 : a * b ≤ 18446744073709551615 * 18446744073709551615 := Int.mul_le_mul (by have := ha.2; omega) (by have := hb.2; omega) hb.1 (by omega)
  generalize a * b = c at *
  exact ⟨⟨by omega, by omega⟩, ⟨by omega, by omega⟩⟩

theorem gold_Mul_eq {a b : Int} (ha : U a) (hb : U b) : gold_Mul.f a b = some (un (cv a * cv b)) := by
  unfold gold_Mul.f
  rw [wide_Mul_eq ha hb]
  simp only [Option.bind_some]
  rw [gold_Reduce_eq (U_wide ha hb).1 (U_wide ha hb).2]
  simp only [Option.bind_some, ← cv_mul]
  congr 3
  omega

theorem twid_Scale_ev {l : List Int} (h : UL l) (hl : l.length < 4294967296) {a : Int} (ha : U a) : Ev (fun k => twid_Scale.f k l a) (tab l.length (fun i => co l i * cv a)) := by
  unfold twid_Scale.f
  have d1 : (0 : Int) ≤ (l.length : Int) := by omega
  have d2 : l.length ≤ 35184372088832 := by omega
  simp -implicitDefEqProofs only [d1, d2, if_true, Int.toNat_natCast, replicate_tab]
  have e0 : tab l.length (fun _ => (0 : F)) = tab l.length (fun j => if j < 0 then co l j * cv a else 0) := tab_congr (fun j hj => by rw [if_neg (by omega)])
  rw [e0]
  refine Ev_loop l.length (fun k i => twid_Scale.l0 k a (tab l.length (fun j => if j < i then co l j * cv a else 0)) l (l.length : Int) (i : Int)) ?_ (fun i hi ih => ?_) 0 (Nat.zero_le _)
  · refine Ev.step (fun k => twid_Scale.l0.eq_2 ..) ?_
    simp -implicitDefEqProofs only [Int.lt_irrefl, if_false]
    rw [tab_congr (g := fun i => co l i * cv a) (fun i hi => by rw [if_pos hi])]
    exact Ev.now _
  · refine Ev.step (fun k => twid_Scale.l0.eq_2 ..) ?_
    have c1 : (i : Int) < (l.length : Int) := by omega
    have c2 : (0 : Int) ≤ (i : Int) := by omega
    simp -implicitDefEqProofs only [c1, c2, tab_length, if_true, gold_Mul_eq (U_rd h _) ha, Option.bind_some, cv_rd, Int.toNat_natCast, tab_set, nat64_succ (show i < 9223372036854775807 by omega)]
    have e : tab l.length (fun j => if j = i then co l i * cv a else if j < i then co l j * cv a else 0) = tab l.length (fun j => if j < i + 1 then co l j * cv a else 0) := by
      apply tab_congr
      intro j hj
      by_cases hji : j = i
      · subst hji; rw [if_pos rfl, if_pos (by omega)]
      · rw [if_neg hji]
        by_cases hh : j < i
        · rw [if_pos hh, if_pos (by omega)]
        · rw [if_neg hh, if_neg (by omega)]
    rw [e]
    exact ih

theorem bits_Add64_eq {a b c : Int} (ha : 0 ≤ a) (hb : 0 ≤ b) (h0 : 0 ≤ c) (h1 : c ≤ 1) : bits_Add64.f a b c = some ((a + b + c) % 18446744073709551616, (a + b + c) / 18446744073709551616) := by
  unfold bits_Add64.f
  rw [if_pos ha, if_pos hb, if_pos h0, if_pos h1]

theorem wide_Add_eq {a b c d : Int} (ha : U a) (hb : U b) (hc : U c) (hd : U d) :
    wide_Add.f a b c d = some ((a * 18446744073709551616 + b + (c * 18446744073709551616 + d)) / 18446744073709551616 % 18446744073709551616, (a * 18446744073709551616 + b + (c * 18446744073709551616 + d)) % 18446744073709551616, (a * 18446744073709551616 + b + (c * 18446744073709551616 + d)) / 340282366920938463463374607431768211456) := by
  have := ha.1; have := ha.2; have := hb.1; have := hb.2; have := hc.1; have := hc.2; have := hd.1; have := hd.2
  unfold wide_Add.f
  rw [bits_Add64_eq hb.1 hd.1 (by omega) (by omega)]
  simp only [Option.bind_some]
  rw [bits_Add64_eq ha.1 hc.1 (by omega) (by omega)]
  simp only [Option.bind_some, Option.some.injEq, Prod.mk.injEq]
  exact ⟨by omega, by omega, by omega⟩

theorem gold_Add_eq {a b : Int} (ha : U a) (hb : U b) : gold_Add.f a b = some (un (cv a + cv b)) := by
  unfold gold_Add.f
  rw [gold_Of_eq ha, gold_Of_eq hb]
  simp only [Option.bind_some]
  rw [wide_Add_eq ⟨by omega, by omega⟩ (U_un _) ⟨by omega, by omega⟩ (U_un _)]
  simp only [Option.bind_some]
  have h0 := un_lo (cv a); have h1 := un_hi (cv a); have h2 := un_lo (cv b); have h3 := un_hi (cv b)
  rw [gold_Reduce_eq ⟨by omega, by omega⟩ ⟨by omega, by omega⟩]
  simp only [Option.bind_some]
  have e : cv a + cv b = cv (un (cv a) + un (cv b)) := by rw [cv_add, cv_un, cv_un]
  rw [e]
  congr 2
  exact cv_of_eq 0 (by omega)

theorem gold_Neg_eq {a : Int} (h : U a) : gold_Neg.f a = some (un (- cv a)) := by
  unfold gold_Neg.f
  rw [gold_Of_eq h]
  simp only [Option.bind_some, un_neg, un_cv]
  by_cases c : a % 18446744069414584321 = 0
  · rw [if_pos c, c]; rfl
  · rw [if_neg c, wu64]; congr 1; omega

theorem gold_Sub_eq {a b : Int} (ha : U a) (hb : U b) : gold_Sub.f a b = some (un (cv a - cv b)) := by
  unfold gold_Sub.f
  rw [gold_Neg_eq hb]
  simp only [Option.bind_some]
  rw [gold_Add_eq ha (U_un _)]
  simp only [Option.bind_some, cv_un]
  congr 2; grind

theorem hk_crossO_eq {a b c d u : Int} (ha : U a) (hb : U b) (hc : U c) (hd : U d) (hu : U u) :
    hk_crossO a b c d u = some (un ((cv a + cv c) + (cv b + cv d)), un ((cv a - cv c) + cv u * (cv b - cv d)), un ((cv a + cv c) - (cv b + cv d)), un ((cv a - cv c) - cv u * (cv b - cv d))) := by
  unfold hk_crossO
  rw [gold_Add_eq ha hc, Option.bind_some, gold_Sub_eq ha hc, Option.bind_some, gold_Add_eq hb hd, Option.bind_some, gold_Sub_eq hb hd, Option.bind_some, gold_Mul_eq hu (U_un _), Option.bind_some, gold_Add_eq (U_un _) (U_un _), Option.bind_some, gold_Add_eq (U_un _) (U_un _), Option.bind_some, gold_Sub_eq (U_un _) (U_un _), Option.bind_some, gold_Sub_eq (U_un _) (U_un _), Option.bind_some]
  simp -implicitDefEqProofs only [cv_un]

/-- One crossing: what stands behind it. -/
theorem hk_qstep_eq {N n s i q : Nat} (hN : N = n * s) (h4 : n = 4 * (n / 4)) (hi : i < n / 4) (hq : q < s) {W u : F} (hu : u * u = -1) (pf : Nat → F) (pn : Nat) (hpn : N ≤ pn) (hpf : ∀ j, pf (j * s) = W ^ j) (x g0 : Nat → F) :
    hk_qstep (tab pn pf) (tab N x) (un u) n s s i q (tab N (q4 s (qx s (n / 4) W u x) g0 i q)) = some (tab N (q4 s (qx s (n / 4) W u x) g0 i (q + 1))) := by
  obtain ⟨h, hh⟩ : ∃ h, h = n / 4 := ⟨_, rfl⟩
  rw [← hh] at h4 hi ⊢
  have hs : 0 < s := by omega
  have lt : ∀ c, c < 4 → q + s * (i + c * h) < N := fun c hc => by
    have h1 : i + c * h + 1 ≤ 4 * h := by
      have : c * h ≤ 3 * h := Nat.mul_le_mul_right h (by omega)
      omega
    have h2 : s * (i + c * h + 1) ≤ s * (4 * h) := Nat.mul_le_mul_left s h1
    rw [hN, h4, Nat.mul_comm (4 * h) s]
    rw [Nat.mul_add s, Nat.mul_one] at h2
    omega
  have lp : ∀ c, c < 4 → c * i * s < pn := fun c hc => by
    have h1 : c * i ≤ 3 * i := Nat.mul_le_mul_right i (by omega)
    have h2 : c * i * s < 4 * h * s := Nat.mul_lt_mul_of_pos_right (by omega) hs
    rw [hN, h4] at hpn
    omega
  have cr := hk_crossO_eq (U_un (x (q + s * (i + 0 * h)))) (U_un (x (q + s * (i + 1 * h)))) (U_un (x (q + s * (i + 2 * h)))) (U_un (x (q + s * (i + 3 * h)))) (U_un u)
  simp -implicitDefEqProofs only [cv_un] at cr
  obtain ⟨z0, z1, z2, z3⟩ := q_cross (x (q + s * (i + 0 * h))) (x (q + s * (i + 1 * h))) (x (q + s * (i + 2 * h))) (x (q + s * (i + 3 * h))) u hu
  rw [z0, z1, z2, z3] at cr
  have tt : ∀ t, t < 4 → qx s h W u x (q + s * 4 * i + t * s) = (x (q + s * (i + 0 * h)) + x (q + s * (i + 1 * h)) * u ^ (1 * t) + x (q + s * (i + 2 * h)) * u ^ (2 * t) + x (q + s * (i + 3 * h)) * u ^ (3 * t)) * W ^ (t * i) := fun t ht => by
    rw [qx_at h W u x hq ht, Nat.zero_mul, Nat.one_mul h, Nat.add_zero]
  have m1 := tt 1 (by omega)
  have m2 := tt 2 (by omega)
  have m3 := tt 3 (by omega)
  have m0 := tt 0 (by omega)
  rw [show q + s * 4 * i + 0 * s = q + s * 4 * i by omega, Nat.zero_mul i, k1 W, k2] at m0
  rw [Nat.one_mul s] at m1
  have w1 : rd (tab pn pf) ((i * s : Nat) : Int) = un (W ^ (1 * i)) := by
    have := lp 1 (by omega)
    rw [Nat.one_mul] at this ⊢
    rw [rd_tab this, hpf]
  have w2 : rd (tab pn pf) ((2 * i * s : Nat) : Int) = un (W ^ (2 * i)) := by rw [rd_tab (lp 2 (by omega)), hpf]
  have w3 : rd (tab pn pf) ((3 * i * s : Nat) : Int) = un (W ^ (3 * i)) := by rw [rd_tab (lp 3 (by omega)), hpf]
  unfold hk_qstep
  rw [← hh, rd_tab (lt 0 (by omega)), rd_tab (lt 1 (by omega)), rd_tab (lt 2 (by omega)), rd_tab (lt 3 (by omega)), cr, w1, w2, w3, Option.bind_some]
  simp -implicitDefEqProofs only []
  rw [gold_Mul_eq (U_un _) (U_un _), Option.bind_some, gold_Mul_eq (U_un _) (U_un _), Option.bind_some, gold_Mul_eq (U_un _) (U_un _), Option.bind_some]
  simp -implicitDefEqProofs only [cv_un]
  rw [← m0, ← m1, ← m2, ← m3]
  congr 1
  exact q4_step hq (qx s h W u x) g0
where
  k1 {R : Nat} [NeZero R] (W : Fin R) : W ^ 0 = 1 := by grind
  k2 {R : Nat} [NeZero R] (a : Fin R) : a * 1 = a := by grind
theorem hk_qin_eq {N n s i : Nat} (hN : N = n * s) (h4 : n = 4 * (n / 4)) (hi : i < n / 4) {W u : F} (hu : u * u = -1) (pf : Nat → F) (pn : Nat) (hpn : N ≤ pn) (hpf : ∀ j, pf (j * s) = W ^ j) (x g0 : Nat → F) :
    ∀ q, q ≤ s → hk_qin (tab pn pf) (tab N x) (un u) n s s i (tab N (q4 s (qx s (n / 4) W u x) g0 i 0)) q = some (tab N (q4 s (qx s (n / 4) W u x) g0 i q))
  | 0, _ => rfl
  | q + 1, hq => by
    unfold hk_qin
    rw [hk_qin_eq hN h4 hi hu pf pn hpn hpf x g0 q (by omega), Option.bind_some]
    exact hk_qstep_eq hN h4 hi (by omega) hu pf pn hpn hpf x g0
theorem hk_qout_at {N n s : Nat} (hN : N = n * s) (hs : 0 < s) (h4 : n = 4 * (n / 4)) {W u : F} (hu : u * u = -1) (pf : Nat → F) (pn : Nat) (hpn : N ≤ pn) (hpf : ∀ j, pf (j * s) = W ^ j) (x g0 : Nat → F) :
    ∀ i, i ≤ n / 4 → hk_qout (tab pn pf) (tab N x) (un u) n s s (tab N g0) i = some (tab N (q4 s (qx s (n / 4) W u x) g0 i 0))
  | 0, _ => by
    unfold hk_qout
    exact congrArg some (tab_congr (fun p _ => (q4_zero s _ g0 p).symm))
  | i + 1, hi => by
    unfold hk_qout
    rw [hk_qout_at hN hs h4 hu pf pn hpn hpf x g0 i (by omega), Option.bind_some, hk_qin_eq hN h4 (by omega) hu pf pn hpn hpf x g0 s (Nat.le_refl _)]
    exact congrArg some (tab_congr (fun p _ => q4_next hs _ g0 i p))
theorem hk_qout_eq {N n s : Nat} (hN : N = n * s) (hs : 0 < s) (h4 : n = 4 * (n / 4)) {W u : F} (hu : u * u = -1) (pf : Nat → F) (pn : Nat) (hpn : N ≤ pn) (hpf : ∀ j, pf (j * s) = W ^ j) (x g0 : Nat → F) :
    hk_qout (tab pn pf) (tab N x) (un u) n s s (tab N g0) (n / 4) = some (tab N (qx s (n / 4) W u x)) := by
  rw [hk_qout_at hN hs h4 hu pf pn hpn hpf x g0 (n / 4) (Nat.le_refl _)]
  exact congrArg some (tab_congr (fun p hp => q4_end hs _ g0 (by rw [← h4, ← hN]; exact hp)))

/-- A last pass's target while the pass is at place q. -/
def h4v (s : Nat) (x g0 : Nat → F) (q p : Nat) : F := if p < q then x p + x (p + s) else if s ≤ p ∧ p < s + q then x (p - s) - x p else g0 p
theorem hk_hin_eq (s : Nat) (x g0 : Nat → F) : ∀ q, q ≤ s → hk_hin (tab (2 * s) x) s (tab (2 * s) g0) q = some (tab (2 * s) (h4v s x g0 q))
  | 0, _ => by
    unfold hk_hin
    refine congrArg some (tab_congr (fun p _ => ?_))
    unfold h4v
    rw [if_neg (by omega), if_neg (by omega)]
  | q + 1, hq => by
    unfold hk_hin
    rw [hk_hin_eq s x g0 q (by omega), Option.bind_some]
    unfold hk_hstep
    rw [rd_tab (show q < 2 * s by omega), rd_tab (show q + s < 2 * s by omega), gold_Add_eq (U_un _) (U_un _), Option.bind_some, gold_Sub_eq (U_un _) (U_un _), Option.bind_some, cv_un, cv_un, tab_set, tab_set]
    refine congrArg some (tab_congr (fun p _ => ?_))
    unfold h4v
    by_cases c1 : p = q + s
    · rw [if_pos c1, if_neg (by omega), if_pos (by omega), c1, Nat.add_sub_cancel]
    · rw [if_neg c1]
      by_cases c2 : p = q
      · rw [if_pos c2, if_pos (by omega), c2]
      · rw [if_neg c2]
        by_cases c3 : p < q
        · rw [if_pos c3, if_pos (by omega)]
        · rw [if_neg c3, if_neg (show ¬ p < q + 1 by omega)]
          by_cases c4 : s ≤ p ∧ p < s + q
          · rw [if_pos c4, if_pos (by omega)]
          · rw [if_neg c4, if_neg (by omega)]

theorem hk_k4s_eq {k : Nat} (hk : k ≤ 20) {d : Int} (hd : d = 0 ∨ d = 1) (x : Nat → F) : ∀ j, 2 * j ≤ k → ∃ g0 : Nat → F,
    hk_k4s (tab (2 ^ k) (fun i => dr k d ^ i)) (un (dr 2 d)) k (tab (2 ^ k) x) j = some (tab (2 ^ k) (qv k (dr k d) (dr 2 d) x j), tab (2 ^ k) g0)
  | 0, _ => ⟨fun _ => 0, by unfold hk_k4s; rw [tab_length, replicate_tab]; rfl⟩
  | j + 1, hj => by
    obtain ⟨g0, e⟩ := hk_k4s_eq hk hd x j (by omega)
    refine ⟨qv k (dr k d) (dr 2 d) x j, ?_⟩
    unfold hk_k4s
    rw [e, Option.bind_some]
    simp -implicitDefEqProofs only [tab_length]
    have hs : 0 < 4 ^ j := Nat.pow_pos (by omega)
    have hn : 0 < 2 ^ (k - 2 * j) := Nat.two_pow_pos _
    have hN : 2 ^ k = 2 ^ (k - 2 * j) * 4 ^ j := by rw [four_pow, ← Nat.pow_add]; congr 1; omega
    have hst : 2 ^ k / 2 ^ (k - 2 * j) = 4 ^ j := by rw [hN, Nat.mul_div_cancel_left _ hn]
    have h4 : 2 ^ (k - 2 * j) = 4 * (2 ^ (k - 2 * j) / 4) := by
      rw [two_quarter (k := k) (j := j) hj, Nat.mul_div_cancel_left _ (by omega)]
    rw [hst, hk_qout_eq hN hs h4 (dr_two_sq hd) (fun i => dr k d ^ i) (2 ^ k) (Nat.le_refl _) (W := dr k d ^ 4 ^ j) (fun i => by rw [Nat.mul_comm, pow_mul'])]
    rfl
theorem hk_k4r_eq {k : Nat} (hk : k ≤ 20) {d : Int} (hd : d = 0 ∨ d = 1) (x : Nat → F) :
    hk_k4r (tab (2 ^ k) (fun i => dr k d ^ i)) (un (dr 2 d)) k (tab (2 ^ k) x) = some (tab (2 ^ k) (fun p => dft (2 ^ k) (dr k d) x p)) := by
  have key : ∀ q, q < 4 ^ (k / 2) → ∀ p, dft (2 ^ k) (dr k d) x (q + 4 ^ (k / 2) * p) = Sm (2 ^ (k - 2 * (k / 2))) (fun m => qv k (dr k d) (dr 2 d) x (k / 2) (q + 4 ^ (k / 2) * m) * (dr k d ^ 4 ^ (k / 2)) ^ (m * p)) := fun q hq p => by
    by_cases h2 : 2 ≤ k
    · rw [← qv_sum (dr k d) (dr 2 d) (dr_drop (by omega) h2 hd) (u4_of (dr_two_sq hd)) x (k / 2) (by omega) q hq p]
      unfold dft
      exact Sm_congr (fun m _ => by rw [← pow_mul', Nat.mul_comm m])
    · have e : k / 2 = 0 := by omega
      rw [e] at hq ⊢
      obtain rfl : q = 0 := by rw [Nat.pow_zero] at hq; omega
      unfold dft
      refine Sm_congr (fun m _ => ?_)
      show x m * (dr k d ^ (0 + 1 * p)) ^ m = x (0 + 1 * m) * (dr k d ^ 1) ^ (m * p)
      rw [Nat.zero_add, Nat.zero_add, Nat.one_mul, Nat.one_mul, k1 (dr k d), ← pow_mul', Nat.mul_comm m]
  obtain ⟨g0, e⟩ := hk_k4s_eq hk hd x (k / 2) (by omega)
  unfold hk_k4r
  rw [e, Option.bind_some]
  have hs : 0 < 4 ^ (k / 2) := Nat.pow_pos (by omega)
  rcases Nat.mod_two_eq_zero_or_one k with h0 | h1
  · rw [if_neg (by omega)]
    have hN : 2 ^ k = 4 ^ (k / 2) := by rw [four_pow]; congr 1; omega
    refine congrArg some (tab_congr (fun p hp => ?_))
    have := key p (by omega) 0
    rw [Nat.mul_zero, Nat.add_zero, show k - 2 * (k / 2) = 0 by omega] at this
    rw [this]
    show _ = 0 + qv k (dr k d) (dr 2 d) x (k / 2) (p + 4 ^ (k / 2) * 0) * (dr k d ^ 4 ^ (k / 2)) ^ (0 * 0)
    rw [Nat.mul_zero, Nat.add_zero, Nat.mul_zero]
    exact k2 _ _
  · rw [if_pos h1]
    have hN : 2 ^ k = 2 * 4 ^ (k / 2) := by
      rw [four_pow, show 2 * 2 ^ (2 * (k / 2)) = 2 ^ (2 * (k / 2) + 1) by rw [Nat.pow_succ]; omega]; congr 1; omega
    have hw : dr k d ^ 4 ^ (k / 2) = -1 := by
      rw [four_pow, show 2 * (k / 2) = k - 1 by omega]
      exact dr_half4 (by omega) (by omega) hd
    rw [hw] at key
    rw [show k - 2 * (k / 2) = 1 by omega] at key
    generalize 4 ^ (k / 2) = s at *
    rw [hN, hk_hin_eq s _ g0 s (Nat.le_refl _), ← hN]
    refine congrArg some (tab_congr (fun p hp => ?_))
    unfold h4v
    by_cases c : p < s
    · have := key p c 0
      rw [Nat.mul_zero, Nat.add_zero] at this
      rw [if_pos c, this]
      show _ = 0 + qv k (dr k d) (dr 2 d) x (k / 2) (p + s * 0) * (-1) ^ (0 * 0) + qv k (dr k d) (dr 2 d) x (k / 2) (p + s * 1) * (-1) ^ (1 * 0)
      rw [Nat.mul_zero, Nat.add_zero, Nat.mul_one, Nat.mul_zero]
      exact k3 _ _
    · have := key (p - s) (by omega) 1
      rw [Nat.mul_one, show p - s + s = p by omega] at this
      rw [if_neg c, if_pos (by omega), this]
      show _ = 0 + qv k (dr k d) (dr 2 d) x (k / 2) (p - s + s * 0) * (-1) ^ (0 * 1) + qv k (dr k d) (dr 2 d) x (k / 2) (p - s + s * 1) * (-1) ^ (1 * 1)
      rw [Nat.mul_zero, Nat.add_zero, Nat.mul_one s, show p - s + s = p by omega, Nat.zero_mul, Nat.mul_one]
      exact k4 _ _
where
  k1 {R : Nat} [NeZero R] (w : Fin R) : w ^ 1 = w := by grind
  k2 {R : Nat} [NeZero R] (a w : Fin R) : a = 0 + a * w ^ 0 := by grind
  k3 {R : Nat} [NeZero R] (a b : Fin R) : a + b = 0 + a * (-1) ^ 0 + b * (-1) ^ 0 := by grind
  k4 {R : Nat} [NeZero R] (a b : Fin R) : a - b = 0 + a * (-1) ^ 0 + b * (-1) ^ 1 := by grind

theorem scale_one {k : Nat} {l : List Int} (hl : l.length = 2 ^ k) : tab l.length (fun i => co l i * cv 1) = tab (2 ^ k) (co l) := by
  rw [hl]
  exact tab_congr (fun i _ => by rw [cv_one]; exact kk _)
where kk {R : Nat} [NeZero R] (a : Fin R) : a * 1 = a := by grind
theorem gold_Pow_l0_ev : ∀ (m : Nat) (n : Nat) (x y : F), n < 2 ^ m → n < 18446744073709551616 → Ev (fun k => gold_Pow.l0 k (n : Int) (un x) (un y)) (un (x * y ^ n))
  | 0, n, x, y, h, _ => by
    obtain rfl : n = 0 := by simpa using h
    refine Ev.step (f := fun _ => some (un x)) (fun k => ?_) ?_
    · simp only [gold_Pow.l0]; rw [if_neg (by omega)]
    · have : x * y ^ 0 = x := by grind
      rw [this]; exact Ev.now _
  | m + 1, n, x, y, h, hn => by
    have hm : n / 2 < 2 ^ m := by rw [Nat.pow_succ] at h; omega
    have e2 : ((n : Int) / 2) = ((n / 2 : Nat) : Int) := by omega
    by_cases h0 : n = 0
    · subst h0
      refine Ev.step (f := fun _ => some (un x)) (fun k => ?_) ?_
      · simp only [gold_Pow.l0]; rw [if_neg (by omega)]
      · have : x * y ^ 0 = x := by grind
        rw [this]; exact Ev.now _
    · have hU : U (n : Int) := ⟨by omega, by omega⟩
      by_cases h1 : n % 2 = 1
      · refine Ev.step (f := fun k => gold_Pow.l0 k ((n / 2 : Nat) : Int) (un (x * y)) (un (y * y))) (fun k => ?_) ?_
        · simp only [gold_Pow.l0]
          rw [if_pos (by omega), and_one hU, if_pos (by omega), gold_Mul_eq (U_un _) (U_un _), gold_Mul_eq (U_un _) (U_un _), e2]
          simp only [Option.bind_some, cv_un]
        · have ih := gold_Pow_l0_ev m (n / 2) (x * y) (y * y) hm (by omega)
          have e : x * y * (y * y) ^ (n / 2) = x * y ^ n := by
            have : n = 2 * (n / 2) + 1 := by omega
            rw [show y * y = y ^ 2 by grind, ← pow_mul']
            rw [show x * y * y ^ (2 * (n / 2)) = x * y ^ (2 * (n / 2) + 1) by grind, ← this]
          rw [e] at ih; exact ih
      · refine Ev.step (f := fun k => gold_Pow.l0 k ((n / 2 : Nat) : Int) (un x) (un (y * y))) (fun k => ?_) ?_
        · simp only [gold_Pow.l0]
          rw [if_pos (by omega), and_one hU, if_neg (by omega), gold_Mul_eq (U_un _) (U_un _), e2]
          simp only [Option.bind_some, cv_un]
        · have ih := gold_Pow_l0_ev m (n / 2) x (y * y) hm (by omega)
          have e : x * (y * y) ^ (n / 2) = x * y ^ n := by
            have : n = 2 * (n / 2) := by omega
            rw [show y * y = y ^ 2 by grind, ← pow_mul', ← this]
          rw [e] at ih; exact ih
theorem gold_Pow_ev {a n : Int} (ha : U a) (hn : U n) : Ev (fun k => gold_Pow.f k a n) (un (cv a ^ n.toNat)) := by
  have h := gold_Pow_l0_ev 64 n.toNat 1 (cv a) (by have := hn.2; omega) (by have := hn.2; omega)
  rw [un_one, Int.toNat_of_nonneg hn.1] at h
  have e : 1 * cv a ^ n.toNat = cv a ^ n.toNat := by grind
  rw [e] at h
  refine Ev.congr (fun k => ?_) h
  unfold gold_Pow.f
  rw [gold_Of_eq ha]; rfl

def erz (x : F) : Int := if x = 0 then 13 else 0
theorem erz_ne {x : F} (h : x ≠ 0) : erz x = 0 := if_neg h
theorem erz_zero : erz 0 = 13 := if_pos rfl
theorem gold_Inv_ev {a : Int} (h : U a) : Ev (fun k => gold_Inv.f k a) (un (inv (cv a)), erz (cv a)) := by
  unfold gold_Inv.f
  rw [gold_Of_eq h]
  simp -implicitDefEqProofs only [Option.bind_some]
  by_cases c : cv a = 0
  · have c' : un (cv a) = 0 := un_eq_zero.2 c
    simp -implicitDefEqProofs only [c', if_true]
    rw [c, inv_zero, erz_zero, un_zero]; exact Ev.now _
  · have c' : ¬ un (cv a) = 0 := fun h => c (un_eq_zero.1 h)
    simp -implicitDefEqProofs only [c', if_false, erz_ne c]
    refine Ev.bind (gold_Pow_ev h ⟨by omega, by omega⟩) ?_
    exact Ev.now _

theorem twid_Share_ev {k : Nat} (hk : k ≤ 32) : Ev (fun n => twid_Share.f n (k : Int)) (un (sh k), 0) := by
  unfold twid_Share.f
  have c : (0 : Int) ≤ IntKind.u64.wrap (k : Int) := (U_wrap _).1
  simp -implicitDefEqProofs only [show ¬ (k : Int) < 0 by omega, show ¬ (k : Int) > 32 by omega, if_false, c, if_true, shl_u64 (show k ≤ 63 by omega)]
  have h := gold_Inv_ev (U_two_pow (n := k) (by omega))
  rw [erz_ne (two_pow_ne hk)] at h
  refine Ev.bind h ?_
  exact Ev.now _
theorem root_good_yes {a : Int} (h0 : 0 ≤ a) (h1 : a ≤ 32) : root_good.f a = some true := by
  unfold root_good.f; rw [if_pos h0, decide_eq_true h1]
theorem shr_word {k : Nat} (hk : k ≤ 32) : shr .u64 18446744069414584320 (IntKind.u64.wrap (k : Int)) = ((18446744069414584320 / 2 ^ k : Nat) : Int) := by
  unfold shr
  rw [wu64_of ⟨by omega, by omega⟩, Int.toNat_natCast, Nat.min_eq_left (by rw [show IntKind.u64.bits = 64 from rfl]; omega)]
  rw [Int.natCast_ediv]; congr 1
theorem root_root_ev {k : Nat} (hk : k ≤ 32) : Ev (fun n => root_root.f n (k : Int)) (un (rt k)) := by
  unfold root_root.f
  have c : (0 : Int) ≤ IntKind.u64.wrap (k : Int) := (U_wrap _).1
  have hp : 18446744069414584320 / 2 ^ k ≤ 18446744069414584320 := Nat.div_le_self _ _
  simp -implicitDefEqProofs only [c, if_true, shr_word hk]
  have hu : U ((18446744069414584320 / 2 ^ k : Nat) : Int) := by
    generalize 18446744069414584320 / 2 ^ k = q at *
    exact ⟨by omega, by omega⟩
  refine Ev.bind (gold_Pow_ev ⟨by omega, by omega⟩ hu) ?_
  rw [Int.toNat_natCast]
  exact Ev.now _

theorem root_Root_ev {k : Nat} (hk : k ≤ 32) : Ev (fun n => root_Root.f n (k : Int)) (un (rt k), 0) := by
  unfold root_Root.f
  rw [root_good_yes (by omega) (by omega)]
  simp -implicitDefEqProofs only [Option.bind_some, if_true]
  exact Ev.bind (root_root_ev hk) (Ev.now _)
theorem root_Back_ev {k : Nat} (hk : k ≤ 32) : Ev (fun n => root_Back.f n (k : Int)) (un (inv (rt k)), 0) := by
  unfold root_Back.f
  rw [root_good_yes (by omega) (by omega)]
  simp -implicitDefEqProofs only [Option.bind_some, if_true]
  refine Ev.bind (root_root_ev hk) ?_
  have h := gold_Inv_ev (U_un (rt k))
  rw [cv_un, erz_ne (rt_ne_zero k)] at h
  refine Ev.bind h ?_
  exact Ev.now _
theorem twid_Root_ev {k : Nat} (hk : k ≤ 32) {d : Int} (hd : d = 0 ∨ d = 1) : Ev (fun n => twid_Root.f n (k : Int) d) (un (dr k d), 0) := by
  unfold twid_Root.f
  simp -implicitDefEqProofs only [show ¬ (k : Int) < 0 by omega, if_false, decide_eq_false (show ¬ (k : Int) > 32 by omega)]
  refine Ev.step (fun n => twid_Root.j0.eq_2 ..) ?_
  rcases hd with rfl | rfl
  · simp -implicitDefEqProofs only [show ¬ (false = true) by decide, if_false, if_true]
    refine Ev.bind (root_Root_ev hk) ?_
    rw [dr_fwd]; exact Ev.now _
  · simp -implicitDefEqProofs only [show ¬ (false = true) by decide, if_false, if_true, show ¬ (1 : Int) = 0 by omega]
    refine Ev.bind (root_Back_ev hk) ?_
    rw [dr_inv]; exact Ev.now _
theorem root_Powers_ev {w : Int} (hw : U w) {n : Nat} (hn : n ≤ 1048576) : Ev (fun k => root_Powers.f k w (n : Int)) (tab n (fun i => cv w ^ i), 0) := by
  unfold root_Powers.f
  have c1 : ¬ ((n : Int) < 0) := by omega
  have c2 : decide ((n : Int) > 1048576) = false := decide_eq_false (by omega)
  simp -implicitDefEqProofs only [c1, c2, if_false]
  refine Ev.step (fun k => root_Powers.j0.eq_2 ..) ?_
  have c3 : (0 : Int) ≤ (n : Int) := by omega
  have c4 : n ≤ 35184372088832 := by omega
  simp -implicitDefEqProofs only [c3, c4, Int.toNat_natCast, if_true, if_false, show ¬ (false = true) by decide, Option.bind_some, replicate_tab, tab_length]
  have e0 : tab n (fun _ => (0 : F)) = tab n (fun j => if j < 0 then cv w ^ j else 0) := tab_congr (fun j hj => by rw [if_neg (by omega)])
  have e1 : (1 : Int) = un (cv w ^ 0) := by rw [show cv w ^ 0 = 1 by grind, un_one]
  rw [e0, e1]
  refine Ev_loop n (fun k i => root_Powers.l0 k w (tab n (fun j => if j < i then cv w ^ j else 0)) (un (cv w ^ i)) (n : Int) (i : Int)) ?_ (fun i hi ih => ?_) 0 (Nat.zero_le _)
  · refine Ev.step (fun k => root_Powers.l0.eq_2 ..) ?_
    simp -implicitDefEqProofs only [Int.lt_irrefl, if_false]
    have e : tab n (fun j => if j < n then cv w ^ j else 0) = tab n (fun i => cv w ^ i) := tab_congr (fun j hj => by rw [if_pos hj])
    rw [e]
    exact Ev.now _
  · refine Ev.step (fun k => root_Powers.l0.eq_2 ..) ?_
    have c1 : (i : Int) < (n : Int) := by omega
    have c2 : (0 : Int) ≤ (i : Int) := by omega
    have es : cv w ^ i * cv w = cv w ^ (i + 1) := by grind
    simp -implicitDefEqProofs only [c1, c2, tab_length, if_true, gold_Mul_eq (U_un _) hw, Option.bind_some, cv_un, Int.toNat_natCast, tab_set, es, nat64_succ (show i < 9223372036854775807 by omega)]
    have e : tab n (fun j => if j = i then cv w ^ i else if j < i then cv w ^ j else 0) = tab n (fun j => if j < i + 1 then cv w ^ j else 0) := by
      apply tab_congr
      intro j hj
      by_cases hji : j = i
      · subst hji; rw [if_pos rfl, if_pos (by omega)]
      · rw [if_neg hji]
        by_cases hh : j < i
        · rw [if_pos hh, if_pos (by omega)]
        · rw [if_neg hh, if_neg (by omega)]
    rw [e]
    exact ih
def hf (k : Nat) : Nat := max (2 ^ k / 2) 1
theorem twid_Table_ev {k : Nat} {d : Int} (hk : k ≤ 20) (hd : d = 0 ∨ d = 1) : Ev (fun n => twid_Table.f n (k : Int) d) (tab (hf k) (fun i => dr k d ^ i), 0) := by
  have hp := two_pow_lt (n := k) (m := 20) hk
  unfold twid_Table.f
  refine Ev.bind (twid_Root_ev (by omega) hd) ?_
  have c : (0 : Int) ≤ IntKind.u64.wrap (k : Int) := (U_wrap _).1
  have e : mx (((2 ^ k : Nat) : Int) / 2) 1 = ((hf k : Nat) : Int) := by unfold mx hf; omega
  simp -implicitDefEqProofs only [if_true, show ¬ (k : Int) > 20 by omega, if_false, c, shl_i64 (show k ≤ 62 by omega), e]
  refine Ev.bind (root_Powers_ev (U_un _) (by unfold hf; omega)) ?_
  rw [cv_un]
  exact Ev.now _
theorem kern4_whole_ev {k : Nat} (hk : k ≤ 20) {d : Int} (hd : d = 0 ∨ d = 1) : Ev (fun n => kern4_whole.f n (k : Int) d) (tab (2 ^ k) (fun i => dr k d ^ i)) := by
  unfold kern4_whole.f
  refine Ev.bind (twid_Table_ev hk hd) ?_
  have hp := two_pow_lt (n := k) (m := 20) hk
  have hh : hf k ≤ 2 ^ k := by unfold hf; have := Nat.two_pow_pos k; omega
  have c1 : ([] : List Int).length + (tab (hf k) (fun i => dr k d ^ i)).length < 17592186044416 := by rw [List.length_nil, tab_length]; omega
  simp -implicitDefEqProofs only [Option.bind_some, c1, if_true, List.nil_append]
  by_cases hk0 : k = 0
  · subst hk0
    simp -implicitDefEqProofs only [show ¬ ((0 : Nat) : Int) > 0 by omega, if_false]
    exact Ev.now _
  · simp -implicitDefEqProofs only [show (k : Int) > 0 by omega, if_true]
    have hfk : hf k = 2 ^ (k - 1) := by
      unfold hf
      obtain ⟨m, rfl⟩ : ∃ m, k = m + 1 := ⟨k - 1, by omega⟩
      have := Nat.two_pow_pos m
      rw [Nat.pow_succ, Nat.mul_div_cancel _ (by omega), show m + 1 - 1 = m by omega]
      omega
    have h2 : 2 ^ k = 2 ^ (k - 1) + 2 ^ (k - 1) := by
      obtain ⟨m, rfl⟩ : ∃ m, k = m + 1 := ⟨k - 1, by omega⟩
      rw [Nat.pow_succ, show m + 1 - 1 = m by omega]; omega
    rw [hfk]
    have hq : 2 ^ (k - 1) ≤ 2 ^ 20 := by omega
    have half := dr_half4 (k := k) (by omega) (by omega) hd
    rw [h2]
    obtain ⟨n, hn⟩ : ∃ n, n = 2 ^ (k - 1) := ⟨_, rfl⟩
    rw [← hn] at hq half ⊢
    have key := Ev_loop n (fun m i => kern4_whole.l0 m (tab (n + i) (fun i => dr k d ^ i)) (tab n (fun i => dr k d ^ i)) ((tab n (fun i => dr k d ^ i)).length : Int) (i : Int)) (r := tab (n + n) (fun i => dr k d ^ i)) ?_ ?_ 0 (Nat.zero_le _)
    · exact key
    · refine Ev.step (fun m => kern4_whole.l0.eq_2 ..) ?_
      simp -implicitDefEqProofs only [tab_length, show ¬ (n : Int) < (n : Int) by omega, if_false]
      exact Ev.now _
    · intro i hi ih
      refine Ev.step (fun m => kern4_whole.l0.eq_2 ..) ?_
      have e1 : gold_Neg.f (un (dr k d ^ i)) = some (un (dr k d ^ (n + i))) := by
        rw [gold_Neg_eq (U_un _), cv_un, pow_add', half, k3]
      have e3 : tab (n + i) (fun i => dr k d ^ i) ++ [un (dr k d ^ (n + i))] = tab (n + (i + 1)) (fun i => dr k d ^ i) := (tab_succ (n + i) _).symm
      simp -implicitDefEqProofs only [tab_length, show (i : Int) < (n : Int) by omega, show (0 : Int) ≤ (i : Int) by omega, if_true, rd_tab hi, e1, Option.bind_some, show n + i < 17592186044416 by omega, e3, nat64_succ (show i < 9223372036854775807 by omega)]
      simp -implicitDefEqProofs only [tab_length] at ih
      exact ih
where k3 {R : Nat} [NeZero R] (a : Fin R) : -1 * a = -a := by grind

theorem kern4_Unit_ev {d : Int} (hd : d = 0 ∨ d = 1) : Ev (fun n => kern4_Unit.f n d) (un (dr 2 d), 0) := by
  unfold kern4_Unit.f
  refine Ev.bind (twid_Root_ev (k := 2) (by omega) hd) ?_
  exact Ev.now _
theorem conv_times_ev {n : Nat} {a b : List Int} (ha : UL a) (hb : UL b) (hl : a.length = n) (hl2 : b.length = n) (hn : n < 4294967296) : Ev (fun k => conv_times.f k a b) (tab n (fun i => co a i * co b i)) := by
  unfold conv_times.f
  have d1 : (0 : Int) ≤ (a.length : Int) := by omega
  have d2 : a.length ≤ 35184372088832 := by omega
  simp -implicitDefEqProofs only [d1, d2, if_true, Int.toNat_natCast, replicate_tab, Option.bind_some, tab_length]
  rw [hl]
  have e0 : tab n (fun _ => (0 : F)) = tab n (fun j => if j < 0 then co a j * co b j else 0) := tab_congr (fun j hj => by rw [if_neg (by omega)])
  rw [e0]
  refine Ev_loop n (fun k i => conv_times.l0 k a b (tab n (fun j => if j < i then co a j * co b j else 0)) (n : Int) (i : Int)) ?_ (fun i hi ih => ?_) 0 (Nat.zero_le _)
  · refine Ev.step (fun k => conv_times.l0.eq_2 ..) ?_
    simp -implicitDefEqProofs only [Int.lt_irrefl, if_false]
    rw [tab_congr (g := fun i => co a i * co b i) (fun i hi => by rw [if_pos hi])]
    exact Ev.now _
  · refine Ev.step (fun k => conv_times.l0.eq_2 ..) ?_
    have c1 : (i : Int) < (n : Int) := by omega
    have c2 : (0 : Int) ≤ (i : Int) := by omega
    have c3 : (i : Int) < (a.length : Int) := by omega
    have c4 : (i : Int) < (b.length : Int) := by omega
    simp -implicitDefEqProofs only [c1, c2, c3, c4, tab_length, if_true, gold_Mul_eq (U_rd ha _) (U_rd hb _), Option.bind_some, cv_rd, Int.toNat_natCast, tab_set, nat64_succ (show i < 9223372036854775807 by omega)]
    have e : tab n (fun j => if j = i then co a i * co b i else if j < i then co a j * co b j else 0) = tab n (fun j => if j < i + 1 then co a j * co b j else 0) := by
      apply tab_congr
      intro j hj
      by_cases hji : j = i
      · subst hji; rw [if_pos rfl, if_pos (by omega)]
      · rw [if_neg hji]
        by_cases hh : j < i
        · rw [if_pos hh, if_pos (by omega)]
        · rw [if_neg hh, if_neg (by omega)]
    rw [e]
    exact ih

theorem hk_kern_ev {k : Nat} (hk : k ≤ 20) : Ev (fun n => hk_kern n (k : Int)) (tab (2 ^ k) (fun i => dr k 0 ^ i), tab (2 ^ k) (fun i => dr k 1 ^ i), un (dr 2 0), un (dr 2 1), un (sh k)) := by
  unfold hk_kern
  refine Ev.bind (twid_Table_ev (by omega) (.inl rfl)) ?_
  refine Ev.bind (twid_Table_ev (by omega) (.inr rfl)) ?_
  refine Ev.bind (kern4_whole_ev hk (.inl rfl)) ?_
  refine Ev.bind (kern4_whole_ev hk (.inr rfl)) ?_
  refine Ev.bind (kern4_Unit_ev (.inl rfl)) ?_
  refine Ev.bind (kern4_Unit_ev (.inr rfl)) ?_
  refine Ev.bind (twid_Share_ev (by omega)) ?_
  exact Ev.now _
theorem hk_fwd_ev {l : List Int} (h : UL l) {k : Nat} (hk : k ≤ 20) {d : Int} (hd : d = 0 ∨ d = 1) (hl : l.length = 2 ^ k) : Ev (fun n => hk_fwd n k (tab (2 ^ k) (fun i => dr k d ^ i)) (un (dr 2 d)) l) (tab (2 ^ k) (fun j => dft (2 ^ k) (dr k d) (co l) j)) := by
  have hp := two_pow_lt (n := k) (m := 20) hk
  unfold hk_fwd
  refine Ev.bind (twid_Scale_ev h (by omega) U_one) ?_
  rw [scale_one hl]
  have c : (tab (2 ^ k) (co l)).length = l.length ∧ l.length = 2 ^ k ∧ (tab (2 ^ k) (fun i => dr k d ^ i)).length = 2 ^ k := ⟨by rw [tab_length, hl], hl, tab_length _ _⟩
  simp -implicitDefEqProofs only [if_pos c, hk_k4r_eq hk hd (co l)]
  exact Ev.now _
theorem hk_fwd_tf {l : List Int} (h : UL l) {k : Nat} (hk : k ≤ 20) (hl : l.length = 2 ^ k) : Ev (fun n => hk_fwd n k (tab (2 ^ k) (fun i => dr k 0 ^ i)) (un (dr 2 0)) l) (tab (2 ^ k) (tf k 0 (co l))) := by
  have e := hk_fwd_ev h hk (d := 0) (.inl rfl) hl
  rw [tab_congr (fun j _ => (tf_fwd k (co l) j).symm)] at e
  exact e
theorem hk_bwd_ev {l : List Int} (h : UL l) {k : Nat} (hk : k ≤ 20) (hl : l.length = 2 ^ k) : Ev (fun n => hk_bwd n k (tab (2 ^ k) (fun i => dr k 1 ^ i)) (un (dr 2 1)) (un (sh k)) l) (tab (2 ^ k) (tf k 1 (co l))) := by
  have hp := two_pow_lt (n := k) (m := 20) hk
  unfold hk_bwd
  refine Ev.bind (hk_fwd_ev h hk (.inr rfl) hl) ?_
  refine Ev.bind (twid_Scale_ev (UL_tab _ _) (by rw [tab_length]; omega) (U_un (sh k))) ?_
  have e2 : tab (tab (2 ^ k) (fun j => dft (2 ^ k) (dr k 1) (co l) j)).length (fun i => co (tab (2 ^ k) (fun j => dft (2 ^ k) (dr k 1) (co l) j)) i * cv (un (sh k))) = tab (2 ^ k) (tf k 1 (co l)) := by
    rw [tab_length]
    refine tab_congr (fun p hp => ?_)
    rw [co_tab_lt hp, cv_un]
    exact (if_pos rfl).symm
  rw [e2]
  have c : (tab (2 ^ k) (tf k 1 (co l))).length = (tab (2 ^ k) (fun j => dft (2 ^ k) (dr k 1) (co l) j)).length := by rw [tab_length, tab_length]
  simp -implicitDefEqProofs only [if_pos c]
  exact Ev.now _
theorem conv_cyclic_ev {a b : List Int} (ha : UL a) (hb : UL b) {k : Nat} (hk : k ≤ 20) (hl : a.length = 2 ^ k) (hl2 : b.length = 2 ^ k) : Ev (fun n => conv_cyclic.f n a b (k : Int)) (tab (2 ^ k) (wrp (2 ^ k) 1 (co a) (co b))) := by
  have hp := two_pow_lt (n := k) (m := 20) hk
  unfold conv_cyclic.f
  have c : (0 : Int) ≤ (k : Int) ∧ (k : Int) ≤ 20 ∧ a.length = 2 ^ k ∧ b.length = 2 ^ k := ⟨by omega, by omega, hl, hl2⟩
  simp -implicitDefEqProofs only [Int.toNat_natCast]
  simp -implicitDefEqProofs only [if_pos c]
  refine Ev.bind (hk_kern_ev hk) ?_
  refine Ev.bind (hk_fwd_tf ha hk hl) ?_
  refine Ev.bind (hk_fwd_tf hb hk hl2) ?_
  refine Ev.bind (conv_times_ev (n := 2 ^ k) (UL_tab _ _) (UL_tab _ _) (tab_length _ _) (tab_length _ _) (by omega)) ?_
  have e := hk_bwd_ev (l := tab (2 ^ k) (fun i => co (tab (2 ^ k) (tf k 0 (co a))) i * co (tab (2 ^ k) (tf k 0 (co b))) i)) (UL_tab _ _) hk (tab_length _ _)
  have e2 : tab (2 ^ k) (tf k 1 (co (tab (2 ^ k) (fun i => co (tab (2 ^ k) (tf k 0 (co a))) i * co (tab (2 ^ k) (tf k 0 (co b))) i)))) = tab (2 ^ k) (wrp (2 ^ k) 1 (co a) (co b)) := by
    refine tab_congr (fun j hj => ?_)
    rw [← wrp_tf (by omega) (co a) (co b) hj]
    exact tf_congr (fun i hi => by rw [co_tab_lt hi, co_tab_lt hi, co_tab_lt hi]) j
  rw [e2] at e
  exact e

theorem conv_padded_ev {p : List Int} {k : Nat} (hk : k ≤ 20) (h0 : 0 < p.length) (hl : p.length ≤ 2 ^ k) : Ev (fun n => conv_padded.f n p (k : Int)) (p ++ List.replicate (2 ^ k - p.length) 0) := by
  have c : (0 : Int) ≤ (k : Int) ∧ (k : Int) ≤ 20 ∧ 0 < p.length ∧ p.length ≤ 2 ^ k := ⟨by omega, by omega, h0, hl⟩
  unfold conv_padded.f
  simp -implicitDefEqProofs only [Int.toNat_natCast]
  rw [if_pos c]
  exact Ev.now _
theorem pad_tr {m n : Nat} {f : Nat → F} (hf : ∀ i, m ≤ i → f i = 0) (h : dg m f ≤ n) : tr m f ++ List.replicate (n - (tr m f).length) 0 = tab n f := by
  rw [tr_length]
  unfold tr
  rw [replicate_tab, tab_append, show dg m f + (n - dg m f) = n by omega]
  refine tab_congr (fun i hi => ?_)
  by_cases c : i < dg m f
  · rw [if_pos c]
  · rw [if_neg c]
    rcases Nat.lt_or_ge i m with d | d
    · exact (dg_out (by omega) d).symm
    · exact (hf i d).symm

theorem product_none {a b : List Int} (k : Nat) : Ev (fun k => conv_product.j0 k a b true) [] := by
  refine Ev.step (fun k => conv_product.j0.eq_2 ..) ?_
  exact Ev.now _
theorem conv_product_ev {p q : List Int} (hp : UL p) (hq : UL q) (hl : p.length + q.length ≤ 524288) : Ev (fun k => conv_product.f k p q) (pmul p q) := by
  unfold conv_product.f
  refine Ev.bind (poly_Trim_ev hp (by omega)) ?_
  refine Ev.bind (poly_Trim_ev hq (by omega)) ?_
  have hdp := dg_le p.length (co p)
  have hdq := dg_le q.length (co q)
  rw [tr_length, tr_length]
  by_cases c1 : dg p.length (co p) = 0
  · simp -implicitDefEqProofs only [show (dg p.length (co p) : Int) = 0 by omega, if_true]
    have e : pmul p q = [] := tr_zero (fun i _ => by
      refine Sm_zeros (fun j _ => ?_)
      have : co p j = 0 := by
        rcases Nat.lt_or_ge j p.length with d | d
        · exact dg_out (by omega) d
        · exact co_out d
      rw [this]; exact k1 _)
    rw [e]
    exact product_none 0
  simp -implicitDefEqProofs only [show ¬ (dg p.length (co p) : Int) = 0 by omega, if_false]
  by_cases c2 : dg q.length (co q) = 0
  · have e0 : ((dg q.length (co q) : Int) == 0) = true := beq_iff_eq.2 (by omega)
    have e : pmul p q = [] := tr_zero (fun i _ => by
      refine Sm_zeros (fun j _ => ?_)
      have : co q (i - j) = 0 := by
        rcases Nat.lt_or_ge (i - j) q.length with d | d
        · exact dg_out (by omega) d
        · exact co_out d
      rw [this]; exact k2 _)
    rw [e0, e]
    exact product_none 0
  have e0 : ((dg q.length (co q) : Int) == 0) = false := beq_eq_false_iff_ne.2 (by omega)
  rw [e0]
  refine Ev.step (fun k => conv_product.j0.eq_2 ..) ?_
  simp -implicitDefEqProofs only [Bool.false_eq_true, if_false, tr_length]
  obtain ⟨e, he, hle, hE⟩ := conv_exponent_ev (n := dg p.length (co p) + dg q.length (co q) - 1) (by omega)
  have ea : wrap64 (wrap64 ((dg p.length (co p) : Int) + (dg q.length (co q) : Int)) - 1) = ((dg p.length (co p) + dg q.length (co q) - 1 : Nat) : Int) := by
    rw [add64 (by omega), wrap64_of (by omega) (by omega)]; omega
  rw [ea]
  refine Ev.bind hE ?_
  have hp2 := two_pow_lt (n := e) (m := 19) he
  refine Ev.bind (conv_padded_ev (by omega) (by rw [tr_length]; omega) (by rw [tr_length]; omega)) ?_
  refine Ev.bind (conv_padded_ev (by omega) (by rw [tr_length]; omega) (by rw [tr_length]; omega)) ?_
  rw [pad_tr (row_out p) (by omega), pad_tr (row_out q) (by omega)]
  refine Ev.bind (conv_cyclic_ev (UL_tab _ _) (UL_tab _ _) (by omega) (tab_length _ _) (tab_length _ _)) ?_
  refine Ev.bind (poly_Trim_ev (UL_tab _ _) (by rw [tab_length]; omega)) ?_
  refine Ev.congr (fun _ => ?_) (Ev.now _)
  refine congrArg some ?_
  rw [tab_length]
  unfold pmul
  have op : ∀ i, dg p.length (co p) ≤ i → co p i = 0 := fun i hi => by
    rcases Nat.lt_or_ge i p.length with d | d
    · exact dg_out hi d
    · exact co_out d
  have oq : ∀ i, dg q.length (co q) ≤ i → co q i = 0 := fun i hi => by
    rcases Nat.lt_or_ge i q.length with d | d
    · exact dg_out hi d
    · exact co_out d
  rw [tr_congr (n := 2 ^ e) (g := cvl (co p) (co q)) (fun j hj => by
    rw [co_tab_lt hj, wrp_congr hj (fun i hi => co_tab_lt hi) (fun i hi => co_tab_lt hi), wrp_fold hj 1 (fun i hi => op i (by omega)) (fun i hi => oq i (by omega)), cvl_out op oq (k := j + 2 ^ e) (by omega)]
    exact k3 _)]
  exact tr_eq (fun _ => rfl) (fun i hi => cvl_out op oq (by omega)) (fun i hi => cvl_out (row_out p) (row_out q) (by omega))
where
  k1 {R : Nat} [NeZero R] (x : Fin R) : 0 * x = 0 := by grind
  k2 {R : Nat} [NeZero R] (x : Fin R) : x * 0 = 0 := by grind
  k3 {R : Nat} [NeZero R] (x : Fin R) : x + 1 * 0 = x := by grind

theorem rdl_at (ls : List (List Int)) (i : Nat) : rd_L1 ls (i : Int) = ls.getD i [] := by unfold rd_L1; rw [Int.toNat_natCast]
/-- How many words the first rows have. -/
def tot (l : List (List Int)) : Nat → Nat
  | 0 => 0
  | i + 1 => tot l i + (l.getD i []).length
/-- The product of the first rows. -/
def pst (l : List (List Int)) : Nat → List Int
  | 0 => [1]
  | i + 1 => pmul (pst l i) (l.getD i [])
theorem pst_length (l : List (List Int)) : ∀ i, (pst l i).length ≤ 1 + tot l i
  | 0 => Nat.le_refl _
  | i + 1 => by
    have h1 := pst_length l i
    have h2 := pmul_length (pst l i) (l.getD i [])
    show (pmul (pst l i) (l.getD i [])).length ≤ 1 + (tot l i + (l.getD i []).length)
    omega
theorem tot_le (l : List (List Int)) {i j : Nat} (h : i ≤ j) : tot l i ≤ tot l j := by
  induction j with
  | zero => obtain rfl : i = 0 := by omega
            exact Nat.le_refl _
  | succ j ih =>
    rcases Nat.lt_or_ge i (j + 1) with d | d
    · have := ih (by omega)
      show tot l i ≤ tot l j + _
      omega
    · obtain rfl : i = j + 1 := by omega
      exact Nat.le_refl _
theorem pst_UL (l : List (List Int)) : ∀ i, UL (pst l i)
  | 0 => UL_cons U_one UL_nil
  | i + 1 => UL_tr _ _
theorem rows_UL {l : List (List Int)} (h : ∀ p ∈ l, UL p) (i : Nat) : UL (l.getD i []) := by
  rw [List.getD_eq_getElem?_getD]
  by_cases hi : i < l.length
  · rw [List.getElem?_eq_getElem hi]; exact h _ (List.getElem_mem hi)
  · rw [List.getElem?_eq_none (by omega)]; exact UL_nil
theorem conv_Product_ev {l : List (List Int)} (h : ∀ p ∈ l, UL p) (hn : l.length < 4294967296) (hl : tot l l.length < 524288) : Ev (fun k => conv_Product.f k l) (pst l l.length, 0) := by
  have second : Ev (fun k => conv_Product.l1 k [1] l (l.length : Int) 0) (pst l l.length, 0) := by
    refine Ev_loop l.length (fun k i => conv_Product.l1 k (pst l i) l (l.length : Int) (i : Int)) ?_ (fun i hi ih => ?_) 0 (Nat.zero_le _)
    · refine Ev.step (fun k => conv_Product.l1.eq_2 ..) ?_
      simp -implicitDefEqProofs only [Int.lt_irrefl, if_false]
      exact Ev.now _
    · refine Ev.step (fun k => conv_Product.l1.eq_2 ..) ?_
      simp -implicitDefEqProofs only [show (i : Int) < (l.length : Int) by omega, show (0 : Int) ≤ (i : Int) by omega, if_true, rdl_at, nat64_succ (show i < 9223372036854775807 by omega)]
      have h1 := pst_length l i
      have h2 := tot_le l (show i + 1 ≤ l.length by omega)
      have h3 : tot l (i + 1) = tot l i + (l.getD i []).length := rfl
      refine Ev.bind (conv_product_ev (pst_UL l i) (rows_UL h i) (by omega)) ?_
      exact ih
  unfold conv_Product.f
  refine Ev_loop l.length (fun k i => conv_Product.l0 k l (tot l i : Int) l (l.length : Int) (i : Int)) ?_ (fun i hi ih => ?_) 0 (Nat.zero_le _)
  · refine Ev.step (fun k => conv_Product.l0.eq_2 ..) ?_
    simp -implicitDefEqProofs only [Int.lt_irrefl, if_false]
    exact second
  · refine Ev.step (fun k => conv_Product.l0.eq_2 ..) ?_
    have h2 := tot_le l (show i + 1 ≤ l.length by omega)
    have h3 : tot l (i + 1) = tot l i + (l.getD i []).length := rfl
    have e1 : wrap64 (524288 - (tot l i : Int)) = 524288 - (tot l i : Int) := wrap64_of (by omega) (by omega)
    simp -implicitDefEqProofs only [show (i : Int) < (l.length : Int) by omega, show (0 : Int) ≤ (i : Int) by omega, if_true, rdl_at, e1, show ¬ (((l.getD i []).length : Int) > 524288 - (tot l i : Int)) by omega, if_false, nat64_succ (show i < 9223372036854775807 by omega), add64 (show tot l i + (l.getD i []).length < 9223372036854775808 by omega)]
    exact ih

theorem un_lc {a b : List Int} (ha : Dg a) (hb : Dg b) : ∀ k, cvl (co a) (co b) k = cv ((lc a b k : Nat) : Int) := by
  induction a with
  | nil =>
    intro k
    rw [lc_nil]
    exact Sm_zeros (fun i _ => by rw [show co [] i = 0 from cv_zero]; exact k0 _)
  | cons d t ih =>
    have hd := ha.head
    have one : ∀ k, cv ((d.toNat * (b.getD k 0).toNat : Nat) : Int) = co (d :: t) 0 * co b k := fun k => by
      have hg := Dg_getD hb k
      rw [Int.natCast_mul, cv_mul, Int.toNat_of_nonneg hd.1, Int.toNat_of_nonneg hg.1]; rfl
    intro k
    rw [cvl_first]
    cases k with
    | zero =>
      show _ = cv ((d.toNat * (b.getD 0 0).toNat : Nat) : Int)
      rw [one 0, Sm_zero]; exact k1 _
    | succ k =>
      show _ = cv ((d.toNat * (b.getD (k + 1) 0).toNat + lc t b k : Nat) : Int)
      rw [Int.natCast_add, cv_add, one (k + 1), ← ih ha.tail k]
      congr 1
      unfold cvl
      refine Sm_congr (fun i _ => ?_)
      rw [show k + 1 - (i + 1) = k - i by omega]; rfl
where
  k0 {R : Nat} [NeZero R] (x : Fin R) : 0 * x = 0 := by grind
  k1 {R : Nat} [NeZero R] (x : Fin R) : x + 0 = x := by grind
theorem nv_row {a b p : List Int} (ha : Dg a) (hb : Dg b) (hl : a.length ≤ 65536) (hp : IsRow p (cvl (co a) (co b))) : nv p = nv a * nv b ∧ ∀ x ∈ p, 0 ≤ x ∧ x ≤ 4611686018427387904 := by
  have hb1 : ∀ k, lc a b k ≤ 281470681743360 := fun k => by
    have h1 := lc_le ha hb k
    have h2 := Nat.mul_le_mul_right 4294836225 hl
    omega
  have hu : ∀ k, un (cvl (co a) (co b) k) = ((lc a b k : Nat) : Int) := fun k => by
    have := hb1 k
    rw [un_lc ha hb, un_cv_of _ (by omega) (by omega)]
  obtain ⟨n, hn, rfl⟩ := hp
  have hg : ∀ i, i < (tr n (cvl (co a) (co b))).length → (tr n (cvl (co a) (co b))).getD i 0 = ((lc a b i : Nat) : Int) := fun i hi => by
    rw [tr_length] at hi
    unfold tr
    rw [tab_getD _ _ _ hi, hu]
  have h0 : ∀ i, (tr n (cvl (co a) (co b))).length ≤ i → lc a b i = 0 := fun i hi => by
    have : cvl (co a) (co b) i = 0 := by
      rw [tr_length] at hi
      rcases Nat.lt_or_ge i n with d | d
      · exact dg_out hi d
      · exact hn i d
    have h1 := hu i
    rw [this, un_zero] at h1
    omega
  constructor
  · rw [← nv_ns, ns_congr (g := lc a b) (fun i hi => by rw [hg i hi, Int.toNat_natCast]), ← ns_lc a b ((tr n (cvl (co a) (co b))).length + (a.length + b.length)) (by omega), ns_ext (m := (tr n (cvl (co a) (co b))).length + (a.length + b.length)) (by omega) h0]
  · intro x hx
    obtain ⟨i, hi, rfl⟩ := List.mem_iff_getElem.1 hx
    have := hg i hi
    rw [List.getD_eq_getElem?_getD, List.getElem?_eq_getElem hi] at this
    have h1 := hb1 i
    simp only [Option.getD_some] at this
    rw [this]
    exact ⟨by omega, by omega⟩
theorem pst_two {a b : List Int} : IsRow (pst [a, b] 2) (cvl (co a) (co b)) := by
  have h1 : IsRow (pst [a, b] 1) (co a) := by
    have h := pmul_any [1] a
    rw [show co [1] = pone from pone_row.co] at h
    exact h.congr (pone_cvl (co a))
  have h2 := pmul_any (pst [a, b] 1) b
  rw [h1.co] at h2
  exact h2
theorem times_nil {a b : List Int} : Ev (fun k => natural_times.j0 k a b true) ([], 0) := by
  refine Ev.step (fun k => natural_times.j0.eq_2 ..) ?_
  simp -implicitDefEqProofs only [if_true]
  exact Ev.now _
theorem dgs_mul_length {a b : List Int} (ha : Dg a) (hb : Dg b) : (dgs (nv a * nv b)).length ≤ a.length + b.length := by
  apply dgs_length_lt
  have h1 := nv_lt ha
  have h2 := nv_lt hb
  rw [Nat.pow_add]
  exact Nat.mul_lt_mul'' h1 h2
theorem natural_times_ev {a b : List Int} (ha : Nt a) (hb : Nt b) (hl : a.length + b.length ≤ 65536) : Ev (fun k => natural_times.f k a b) (dgs (nv a * nv b), 0) := by
  unfold natural_times.f
  by_cases c1 : a.length = 0
  · simp -implicitDefEqProofs only [show (a.length : Int) = 0 by omega, if_true]
    obtain rfl : a = [] := List.length_eq_zero_iff.1 c1
    rw [nv_nil, Nat.zero_mul, dgs_zero]
    exact times_nil
  simp -implicitDefEqProofs only [show ¬ (a.length : Int) = 0 by omega, if_false]
  by_cases c2 : b.length = 0
  · rw [show ((b.length : Int) == 0) = true from beq_iff_eq.2 (by omega)]
    obtain rfl : b = [] := List.length_eq_zero_iff.1 c2
    rw [nv_nil, Nat.mul_zero, dgs_zero]
    exact times_nil
  rw [show ((b.length : Int) == 0) = false from beq_eq_false_iff_ne.2 (by omega)]
  refine Ev.step (fun k => natural_times.j0.eq_2 ..) ?_
  have e1 : wrap64 (wrap64 ((a.length : Int) + (b.length : Int)) - 1) = ((a.length + b.length - 1 : Nat) : Int) := by
    rw [add64 (by omega), wrap64_of (by omega) (by omega)]; omega
  simp -implicitDefEqProofs only [Bool.false_eq_true, if_false, e1, show ¬ ((a.length + b.length - 1 : Nat) : Int) > 65536 by omega]
  have ht : tot [a, b] [a, b].length = a.length + b.length := by
    show 0 + a.length + b.length = _; omega
  refine Ev.bind (conv_Product_ev (l := [a, b]) (fun p hp => ?_) (show 2 < 4294967296 by decide) (by rw [ht]; omega)) ?_
  · rcases List.mem_cons.1 hp with rfl | hp
    · exact Dg_UL ha.Dg
    · rcases List.mem_cons.1 hp with rfl | hp
      · exact Dg_UL hb.Dg
      · cases hp
  have hrow : IsRow (pst [a, b] [a, b].length) (cvl (co a) (co b)) := pst_two
  have hpl := pst_length [a, b] [a, b].length
  rw [ht] at hpl
  obtain ⟨hv, hx⟩ := nv_row ha.Dg hb.Dg (by omega) hrow
  simp -implicitDefEqProofs only [if_true]
  refine Ev.bind (natural_carry_ev hx (by omega)) ?_
  have hlen := dgs_mul_length ha.Dg hb.Dg
  rw [hv, natural_fits_eq (by omega)]
  simp -implicitDefEqProofs only [Option.bind_some]
  exact Ev.now _

/-- The product of numbers. -/
def nvp : List (List Int) → Nat
  | [] => 1
  | a :: t => nv a * nvp t
/-- The lengths of rows. -/
def lns : List (List Int) → Nat
  | [] => 0
  | a :: t => a.length + lns t
theorem hk_prods_ev : ∀ (ls : List (List Int)) (o : List Int), (∀ l ∈ ls, Nt l) → Nt o → o.length + lns ls ≤ 65536 → Ev (fun k => hk_prods k ls o) (dgs (nv o * nvp ls), 0)
  | [], o, _, ho, _ => by
    show Ev (fun k => some (o, 0)) (dgs (nv o * 1), 0)
    rw [Nat.mul_one, ← show o = dgs (nv o) from ho]
    exact Ev.now _
  | a :: t, o, h, ho, hl => by
    have ha := h a List.mem_cons_self
    have hlen := dgs_mul_length ho.Dg ha.Dg
    have hl2 : lns (a :: t) = a.length + lns t := rfl
    show Ev (fun k => (natural_times.f k o a).bind fun q => if q.2 = 0 then hk_prods k t q.1 else some ([], q.2)) _
    refine Ev.bind (natural_times_ev ho ha (by omega)) ?_
    simp -implicitDefEqProofs only [if_true]
    have ih := hk_prods_ev t (dgs (nv o * nv a)) (fun l hl => h l (List.mem_cons_of_mem _ hl)) (Nt_dgs _) (by omega)
    rw [nv_dgs, Nat.mul_assoc] at ih
    exact ih
theorem nvp_nil {ls : List (List Int)} (h : [] ∈ ls) : nvp ls = 0 := by
  induction ls with
  | nil => cases h
  | cons a t ih =>
    rcases List.mem_cons.1 h with rfl | h
    · show 0 * _ = 0; exact Nat.zero_mul _
    · show nv a * nvp t = 0; rw [ih h, Nat.mul_zero]
theorem lns_le {ls : List (List Int)} : ∀ l ∈ ls, l.length ≤ lns ls := by
  induction ls with
  | nil => intro l hl; cases hl
  | cons a t ih =>
    intro l hl
    show l.length ≤ a.length + lns t
    rcases List.mem_cons.1 hl with rfl | hl
    · omega
    · have := ih l hl; omega
theorem natural_Product_ev {ls : List (List Int)} (h : ∀ l ∈ ls, Nt l) (hl : lns ls < 65536) : Ev (fun k => natural_Product.f k ls) (dgs (nvp ls), 0) := by
  unfold natural_Product.f
  have e0 : ¬ ls.any hk_bad = true := fun e => by
    obtain ⟨l, hm, hb⟩ := List.any_eq_true.1 e
    unfold hk_bad at hb
    rw [Nt_good (h l hm) (by have := lns_le l hm; omega)] at hb
    cases hb
  simp -implicitDefEqProofs only [e0, if_false]
  by_cases c : ls.any hk_nil = true
  · simp -implicitDefEqProofs only [c, if_true]
    obtain ⟨l, hm, hn⟩ := List.any_eq_true.1 c
    have hl0 : l = [] := List.length_eq_zero_iff.1 (beq_iff_eq.1 hn)
    rw [hl0] at hm
    rw [nvp_nil hm, dgs_zero]
    exact Ev.now _
  · simp -implicitDefEqProofs only [c, if_false]
    have e : ([1] : List Int) = dgs 1 := by rw [dgs_pos (by decide), show 1 / 65536 = 0 from rfl, dgs_zero]; rfl
    have := hk_prods_ev ls [1] h (by rw [e]; exact Nt_dgs 1) (by show 1 + _ ≤ _; omega)
    rw [show nv [1] = 1 from rfl, Nat.one_mul] at this
    exact this
theorem natural_Of_l0_ev : ∀ (q n : Nat) (o : List Int), n < 65536 ^ q → n < 18446744073709551616 → o.length + q < 8589934592 → Ev (fun k => natural_Of.l0 k (n : Int) o) (o ++ dgs n)
  | 0, n, o, h, _, _ => by
    obtain rfl : n = 0 := by simpa using h
    refine Ev.step (fun k => natural_Of.l0.eq_2 ..) ?_
    simp -implicitDefEqProofs only [show ¬ ((0 : Nat) : Int) > 0 by decide, if_false]
    rw [dgs_zero, List.append_nil]
    exact Ev.now _
  | q + 1, n, o, h, h2, hl => by
    by_cases c0 : n = 0
    · subst c0
      refine Ev.step (fun k => natural_Of.l0.eq_2 ..) ?_
      simp -implicitDefEqProofs only [show ¬ ((0 : Nat) : Int) > 0 by decide, if_false]
      rw [dgs_zero, List.append_nil]
      exact Ev.now _
    · refine Ev.step (fun k => natural_Of.l0.eq_2 ..) ?_
      have ih := natural_Of_l0_ev q (n / 65536) (o ++ [((n % 65536 : Nat) : Int)]) (by rw [Nat.pow_succ] at h; exact Nat.div_lt_of_lt_mul (by rw [Nat.mul_comm]; exact h)) (by omega) (by rw [List.length_append, List.length_singleton]; omega)
      rw [List.append_assoc, List.singleton_append, ← dgs_pos c0] at ih
      simp -implicitDefEqProofs only [show (n : Int) > 0 by omega, if_true, show o.length < 17592186044416 by omega, tm16, td16, wu64_nat (show n / 65536 < 18446744073709551616 by omega)]
      exact ih
theorem natural_Of_ev {n : Nat} (h : n < 18446744073709551616) : Ev (fun k => natural_Of.f k (n : Int)) (dgs n) := natural_Of_l0_ev 4 n [] (by omega) h (by simp)

theorem or_u64 {x y m : Nat} (hy : y < 2 ^ m) (hm : m ≤ 63) (hx : x * 2 ^ m < 18446744073709551616) : Go.bits .or .u64 ((x * 2 ^ m : Nat) : Int) (y : Int) = ((x * 2 ^ m + y : Nat) : Int) := by
  have h1 : 2 ^ m ≤ 2 ^ 63 := Nat.pow_le_pow_right (by decide) hm
  have hb := (bits_nat .u64 64 (by decide) (fun n h0 h1 => by rw [wu64]; omega) (x * 2 ^ m) y (by omega) (by omega)).2
  have e := Nat.two_pow_add_eq_or_of_lt hy x
  rw [hb, Nat.mul_comm x, ← e]
theorem wu_shift {r : Nat} (h : r < 4294967296) : IntKind.u64.wrap ((r : Int) * 65536) = ((r * 65536 : Nat) : Int) := by
  rw [show (r : Int) * 65536 = ((r * 65536 : Nat) : Int) by omega]
  exact wu64_nat (by omega)
theorem or16 {r x : Nat} (hx : x < 65536) (hr : r < 4294967296) : Go.bits .or .u64 ((r * 65536 : Nat) : Int) (x : Int) = ((r * 65536 + x : Nat) : Int) := by
  have h := or_u64 (x := r) (y := x) (m := 16) (by rw [show (2 : Nat) ^ 16 = 65536 from rfl]; exact hx) (by decide) (by rw [show (2 : Nat) ^ 16 = 65536 from rfl]; omega)
  rw [show (2 : Nat) ^ 16 = 65536 from rfl] at h
  exact h
theorem nv_drop_step (l : List Int) (i : Nat) (h : i < l.length) : nv (l.drop i) = (l.getD i 0).toNat + 65536 * nv (l.drop (i + 1)) := by
  rw [List.drop_eq_getElem_cons h, nv_cons, List.getD_eq_getElem?_getD, List.getElem?_eq_getElem h]; rfl
theorem set_at : ∀ (m : Nat) (Q : List Int) (d : Int), (List.replicate (m + 1) 0 ++ Q).set m d = List.replicate m 0 ++ (d :: Q)
  | 0, _, _ => rfl
  | m + 1, Q, d => by
    have ih := set_at m Q d
    rw [List.replicate_succ, List.cons_append, List.set_cons_succ, ih, List.replicate_succ (n := m), List.cons_append]
theorem nv_zeros (m : Nat) (Q : List Int) : nv (List.replicate m 0 ++ Q) = 65536 ^ m * nv Q := by
  rw [nv_append, List.length_replicate]
  have : nv (List.replicate m 0) = 0 := by
    induction m with
    | zero => rfl
    | succ m ih => rw [List.replicate_succ, nv_cons, ih]; rfl
  rw [this, Nat.zero_add]
theorem Dg_zeros (m : Nat) : Dg (List.replicate m 0) := fun x hx => by
  obtain ⟨_, rfl⟩ := List.mem_replicate.1 hx
  exact ⟨by decide, by decide⟩
theorem natural_divSmall_ev {a : List Int} (ha : Dg a) (hl : a.length < 4294967296) {n : Nat} (h0 : 0 < n) (hn : n ≤ 4294967296) : Ev (fun k => natural_divSmall.f k a (n : Int)) (dgs (nv a / n), ((nv a % n : Nat) : Int)) := by
  unfold natural_divSmall.f
  simp -implicitDefEqProofs only [show (0 : Int) ≤ (a.length : Int) by omega, if_true, Int.toNat_natCast, show a.length ≤ 35184372088832 by omega, down_next (show a.length < 9223372036854775807 by omega)]
  have key : ∀ (i : Nat) (Q : List Int), i ≤ a.length → Dg Q → Q.length = a.length - i → nv Q = nv (a.drop i) / n → Ev (fun k => natural_divSmall.l0 k a (n : Int) (List.replicate i 0 ++ Q) ((nv (a.drop i) % n : Nat) : Int) ((i : Int) - 1)) (dgs (nv a / n), ((nv a % n : Nat) : Int)) := by
    intro i
    induction i with
    | zero =>
      intro Q _ hQ _ hv
      refine Ev.step (fun k => natural_divSmall.l0.eq_2 ..) ?_
      rw [List.drop_zero] at hv
      rw [List.replicate_zero, List.nil_append, List.drop_zero]
      simp -implicitDefEqProofs only [show ¬ (((0 : Nat) : Int) - 1 ≥ 0) by omega, if_false, natural_trim_dgs hQ, Option.bind_some]
      rw [hv]
      exact Ev.now _
    | succ i ih =>
      intro Q hi hQ hQl hv
      obtain ⟨T, hT⟩ : ∃ T, T = nv (a.drop (i + 1)) := ⟨_, rfl⟩
      have hg := Dg_getD ha i
      obtain ⟨x, hx⟩ := Int.eq_ofNat_of_zero_le hg.1
      have hx2 : x < 65536 := by omega
      have hr := Nat.mod_lt T h0
      have hstep : nv (a.drop i) = x + 65536 * T := by rw [nv_drop_step a i hi, hx, ← hT]; rfl
      have hcur : T % n * 65536 + x < n * 65536 := by
        have := Nat.mul_le_mul_right 65536 (show T % n + 1 ≤ n from hr)
        omega
      have hd : (x + 65536 * T) / n = (T % n * 65536 + x) / n + 65536 * (T / n) := by
        have e : x + 65536 * T = (T % n * 65536 + x) + n * (65536 * (T / n)) := by
          have := Nat.div_add_mod T n
          generalize T % n = r at *
          generalize T / n = q at *
          subst this
          grind
        rw [e, Nat.add_mul_div_left _ _ h0]
      have hm : (x + 65536 * T) % n = (T % n * 65536 + x) % n := by
        have e : x + 65536 * T = (T % n * 65536 + x) + n * (65536 * (T / n)) := by
          have := Nat.div_add_mod T n
          generalize T % n = r at *
          generalize T / n = q at *
          subst this
          grind
        rw [e, Nat.add_mul_mod_self_left]
      have hq : (T % n * 65536 + x) / n < 65536 := by
        rw [Nat.div_lt_iff_lt_mul h0]; omega
      refine Ev.step (fun k => natural_divSmall.l0.eq_2 ..) ?_
      have hlen : (List.replicate (i + 1) (0 : Int) ++ Q).length = a.length := by rw [List.length_append, List.length_replicate, hQl]; omega
      have ew : IntKind.u64.wrap (((T % n : Nat) : Int) * 65536) = ((T % n * 65536 : Nat) : Int) := wu_shift (by omega)
      have eo : Go.bits .or .u64 ((T % n * 65536 : Nat) : Int) (x : Int) = ((T % n * 65536 + x : Nat) : Int) := or16 hx2 (by omega)
      have ed : Int.tdiv ((T % n * 65536 + x : Nat) : Int) (n : Int) = (((T % n * 65536 + x) / n : Nat) : Int) := by rw [Int.tdiv_eq_ediv_of_nonneg (by omega)]; exact (Int.natCast_ediv _ _).symm
      have em : Int.tmod ((T % n * 65536 + x : Nat) : Int) (n : Int) = (((T % n * 65536 + x) % n : Nat) : Int) := by rw [Int.tmod_eq_emod_of_nonneg (by omega)]; exact (Int.natCast_emod _ _).symm
      have er : rd a (i : Int) = (x : Int) := by rw [rd_nat, hx]
      rw [← hT] at hv ⊢
      simp -implicitDefEqProofs only [down_at, show (i : Int) ≥ 0 by omega, if_true, show (0 : Int) ≤ (i : Int) by omega, show (i : Int) < (a.length : Int) by omega, show ¬ (n : Int) = 0 by omega, if_false, hlen, er, ew, eo, ed, em, wu64_nat (show (T % n * 65536 + x) / n < 18446744073709551616 by omega), Int.toNat_natCast, set_at, down_next (show i < 9223372036854775807 by omega)]
      have ih2 := ih ((((T % n * 65536 + x) / n : Nat) : Int) :: Q) (by omega) (Dg_cons (Int.natCast_nonneg _) (Int.ofNat_lt.2 hq) hQ) (by rw [List.length_cons, hQl]; omega) (by rw [nv_cons, Int.toNat_natCast, hv, hstep, hd])
      rw [hstep, hm] at ih2
      exact ih2
  have e0 : nv (a.drop a.length) = 0 := by rw [List.drop_length]; rfl
  have := key a.length [] (Nat.le_refl _) Dg_nil (by simp) (by rw [e0, Nat.zero_div]; rfl)
  rw [e0, List.append_nil, Nat.zero_mod] at this
  exact this

/-- A row whose outer elements, so many on each side, have changed places. -/
def rvl (l : List Int) (i : Nat) : List Int := (List.range l.length).map fun p => if p < i ∨ l.length - 1 - p < i then l.getD (l.length - 1 - p) 0 else l.getD p 0
theorem rvl_length (l : List Int) (i : Nat) : (rvl l i).length = l.length := by simp [rvl]
theorem rvl_getD (l : List Int) (i p : Nat) (h : p < l.length) : (rvl l i).getD p 0 = if p < i ∨ l.length - 1 - p < i then l.getD (l.length - 1 - p) 0 else l.getD p 0 := by simp [rvl, h]
theorem list_ext_getD {a b : List Int} (hl : a.length = b.length) (h : ∀ i, i < a.length → a.getD i 0 = b.getD i 0) : a = b := by
  apply List.ext_getElem hl
  intro i h1 h2
  have := h i h1
  rw [List.getD_eq_getElem?_getD, List.getD_eq_getElem?_getD, List.getElem?_eq_getElem h1, List.getElem?_eq_getElem h2] at this
  exact this
theorem getD_set (l : List Int) (i j : Nat) (v : Int) (hi : i < l.length) : (l.set i v).getD j 0 = if j = i then v else l.getD j 0 := by
  rw [List.getD_eq_getElem?_getD, List.getD_eq_getElem?_getD, List.getElem?_set]
  by_cases e : i = j
  · subst e; rw [if_pos rfl, if_pos rfl, if_pos hi]; rfl
  · rw [if_neg e, if_neg (fun h => e h.symm)]
theorem rvl_zero (l : List Int) : rvl l 0 = l := list_ext_getD (rvl_length l 0) (fun i hi => by rw [rvl_length] at hi; rw [rvl_getD l 0 i hi, if_neg (by omega)])
theorem rvl_end {l : List Int} {i : Nat} (h : l.length ≤ 2 * i + 1) : rvl l i = l.reverse := list_ext_getD (by rw [rvl_length, List.length_reverse]) (fun p hp => by
  rw [rvl_length] at hp
  rw [rvl_getD l i p hp, List.getD_eq_getElem?_getD (l := l.reverse), List.getElem?_reverse hp, ← List.getD_eq_getElem?_getD]
  by_cases c : p < i ∨ l.length - 1 - p < i
  · rw [if_pos c]
  · rw [if_neg c, show l.length - 1 - p = p by omega])
theorem rvl_step {l : List Int} {i : Nat} (h : 2 * i + 1 < l.length) : ((rvl l i).set i ((rvl l i).getD (l.length - 1 - i) 0)).set (l.length - 1 - i) ((rvl l i).getD i 0) = rvl l (i + 1) := list_ext_getD (by rw [List.length_set, List.length_set, rvl_length, rvl_length]) (fun p hp => by
  rw [List.length_set, List.length_set, rvl_length] at hp
  rw [getD_set _ _ _ _ (by rw [List.length_set, rvl_length]; omega), getD_set _ _ _ _ (by rw [rvl_length]; omega), rvl_getD l i i (by omega), rvl_getD l i (l.length - 1 - i) (by omega), rvl_getD l i p hp, rvl_getD l (i + 1) p hp]
  by_cases c1 : p = l.length - 1 - i
  · rw [if_pos c1, if_neg (by omega), if_pos (by omega), c1, show l.length - 1 - (l.length - 1 - i) = i by omega]
  · rw [if_neg c1]
    by_cases c2 : p = i
    · rw [if_pos c2, if_neg (by omega), if_pos (by omega), c2]
    · rw [if_neg c2]
      by_cases c3 : p < i ∨ l.length - 1 - p < i
      · rw [if_pos c3, if_pos (by omega)]
      · rw [if_neg c3, if_neg (by omega)])
theorem slices_Reverse_byte_byte_ev {l : List Int} (hl : l.length < 4294967296) : Ev (fun k => slices_Reverse_byte_byte.f k l) l.reverse := by
  unfold slices_Reverse_byte_byte.f
  have key : ∀ (d i : Nat), l.length ≤ 2 * i + 1 + d → 2 * i ≤ l.length + 1 → Ev (fun k => slices_Reverse_byte_byte.l0 k (rvl l i) (i : Int) ((l.length : Int) - 1 - (i : Int))) l.reverse := by
    intro d
    induction d with
    | zero =>
      intro i h _
      refine Ev.step (fun k => slices_Reverse_byte_byte.l0.eq_2 ..) ?_
      simp -implicitDefEqProofs only [show ¬ (i : Int) < (l.length : Int) - 1 - (i : Int) by omega, if_false]
      rw [rvl_end (by omega)]
      exact Ev.now _
    | succ d ih =>
      intro i h h2
      by_cases c : l.length ≤ 2 * i + 1
      · refine Ev.step (fun k => slices_Reverse_byte_byte.l0.eq_2 ..) ?_
        simp -implicitDefEqProofs only [show ¬ (i : Int) < (l.length : Int) - 1 - (i : Int) by omega, if_false]
        rw [rvl_end c]
        exact Ev.now _
      · refine Ev.step (fun k => slices_Reverse_byte_byte.l0.eq_2 ..) ?_
        have ej : (l.length : Int) - 1 - (i : Int) = ((l.length - 1 - i : Nat) : Int) := by omega
        have e2 : wrap64 (((l.length - 1 - i : Nat) : Int) - 1) = (l.length : Int) - 1 - ((i + 1 : Nat) : Int) := by rw [wrap64_of (by omega) (by omega)]; omega
        simp -implicitDefEqProofs only [ej, show (i : Int) < ((l.length - 1 - i : Nat) : Int) by omega, if_true, show (0 : Int) ≤ ((l.length - 1 - i : Nat) : Int) by omega, rvl_length, show ((l.length - 1 - i : Nat) : Int) < (l.length : Int) by omega, show (0 : Int) ≤ (i : Int) by omega, show (i : Int) < (l.length : Int) by omega, rd_nat, Int.toNat_natCast, rvl_step (show 2 * i + 1 < l.length by omega), nat64_succ (show i < 9223372036854775807 by omega), e2]
        exact ih (i + 1) (by omega) (by omega)
  have := key l.length 0 (by omega) (by omega)
  rw [rvl_zero] at this
  rw [show wrap64 ((l.length : Int) - 1) = (l.length : Int) - 1 - ((0 : Nat) : Int) by rw [wrap64_of (by omega) (by omega)]; omega]
  exact this

/-- A number's decimal digits, the lowest first. -/
def decs (n : Nat) : List Int := if n = 0 then [] else ((48 + n % 10 : Nat) : Int) :: decs (n / 10)
termination_by n
decreasing_by omega
theorem decs_zero : decs 0 = [] := by rw [decs, if_pos rfl]
theorem decs_pos {n : Nat} (h : n ≠ 0) : decs n = ((48 + n % 10 : Nat) : Int) :: decs (n / 10) := by rw [decs, if_neg h]
/-- A number's digits, as they are told. -/
def txt (n : Nat) : ByteArray := if n = 0 then ⟨#[48]⟩ else strOfNums (decs n).reverse
theorem natural_Text_l0_ev : ∀ (q n : Nat) (o : List Int), n < 10 ^ q → (dgs n).length ≤ 2000 → o.length + q < 4294967296 → Ev (fun k => natural_Text.l0 k (dgs n) o) (strOfNums (o ++ decs n).reverse, 0)
  | q, n, o, h, hl, hq => by
    by_cases c0 : n = 0
    · subst c0
      refine Ev.step (fun k => natural_Text.l0.eq_2 ..) ?_
      rw [dgs_zero, decs_zero, List.append_nil]
      simp -implicitDefEqProofs only [List.length_nil, show ¬ ((0 : Nat) : Int) > 0 by decide, if_false]
      refine Ev.bind (slices_Reverse_byte_byte_ev (by omega)) ?_
      exact Ev.now _
    · cases q with
      | zero => exact absurd (show n = 0 by simpa using h) c0
      | succ q =>
        refine Ev.step (fun k => natural_Text.l0.eq_2 ..) ?_
        have hp : (dgs n).length > 0 := by rw [dgs_pos c0, List.length_cons]; omega
        simp -implicitDefEqProofs only [show ((dgs n).length : Int) > 0 by omega, if_true]
        refine Ev.bind (natural_divSmall_ev (Dg_dgs n) (by omega) (n := 10) (by decide) (by decide)) ?_
        have eb : IntKind.u64.wrap (48 + ((n % 10 : Nat) : Int)) % 256 = ((48 + n % 10 : Nat) : Int) := by
          rw [show (48 : Int) + ((n % 10 : Nat) : Int) = ((48 + n % 10 : Nat) : Int) by omega, wu64_nat (by omega)]; omega
        rw [nv_dgs]
        simp -implicitDefEqProofs only [show o.length < 140737488355328 by omega, if_true, eb]
        have ih := natural_Text_l0_ev q (n / 10) (o ++ [((48 + n % 10 : Nat) : Int)]) (by rw [Nat.pow_succ] at h; exact Nat.div_lt_of_lt_mul (by rw [Nat.mul_comm]; exact h)) (by
          have h1 := nv_lt (Dg_dgs n)
          rw [nv_dgs] at h1
          have h2 : (dgs (n / 10)).length ≤ (dgs n).length := dgs_length_lt (by omega)
          omega) (by rw [List.length_append, List.length_singleton]; omega)
        rw [List.append_assoc, List.singleton_append, ← decs_pos c0] at ih
        exact ih
theorem pow16_10 (k : Nat) : 65536 ^ k ≤ 10 ^ (5 * k) := by
  rw [Nat.pow_mul]
  exact Nat.pow_le_pow_left (by decide) k
theorem natural_Text_ev {n : Nat} (hl : (dgs n).length ≤ 2000) : Ev (fun k => natural_Text.f k (dgs n)) (txt n, 0) := by
  unfold natural_Text.f
  rw [natural_Good_eq, Nt_good (Nt_dgs n) (by omega)]
  simp -implicitDefEqProofs only [Option.bind_some, if_true, show ¬ ((dgs n).length : Int) > 2000 by omega, if_false]
  by_cases c : n = 0
  · subst c
    rw [dgs_zero]
    simp -implicitDefEqProofs only [List.length_nil, show ((0 : Nat) : Int) = 0 from rfl, if_true, txt]
    exact Ev.now _
  · have hp : (dgs n).length ≠ 0 := by rw [dgs_pos c, List.length_cons]; omega
    simp -implicitDefEqProofs only [show ¬ ((dgs n).length : Int) = 0 by omega, if_false, txt, c]
    have h1 := nv_lt (Dg_dgs n)
    rw [nv_dgs] at h1
    have h2 := pow16_10 (dgs n).length
    exact natural_Text_l0_ev (5 * (dgs n).length) n [] (by omega) hl (by simp; omega)
theorem abacistlaw31_awake_ev : Ev (fun k => abacistlaw31_awake.f k) true := by
  unfold abacistlaw31_awake.f
  have h1 := natural_Of_ev (n := 99999) (by decide)
  refine Ev.bind h1 ?_
  have hlen : (dgs 99999).length ≤ 2 := dgs_length_lt (by decide)
  have hP : Ev (fun k => natural_Product.f k [dgs 99999, dgs 99999]) (dgs 9999800001, 0) := by
    have h := natural_Product_ev (ls := [dgs 99999, dgs 99999]) (fun l hl => by
      rcases List.mem_cons.1 hl with rfl | hl
      · exact Nt_dgs _
      · rcases List.mem_cons.1 hl with rfl | hl
        · exact Nt_dgs _
        · cases hl) (by show (dgs 99999).length + ((dgs 99999).length + 0) < 65536; omega)
    have e : nvp [dgs 99999, dgs 99999] = 9999800001 := by
      show nv (dgs 99999) * (nv (dgs 99999) * 1) = _
      rw [nv_dgs]
    rw [e] at h
    exact h
  refine Ev.bind hP ?_
  have hl2 : (dgs 9999800001).length ≤ 3 := dgs_length_lt (by decide)
  refine Ev.bind (natural_Text_ev (by omega)) ?_
  have ed : decs 9999800001 = [49, 48, 48, 48, 48, 56, 57, 57, 57, 57] := by
    rw [decs_pos (by decide), show 9999800001 / 10 = 999980000 from rfl, decs_pos (by decide), show 999980000 / 10 = 99998000 from rfl, decs_pos (by decide), show 99998000 / 10 = 9999800 from rfl, decs_pos (by decide), show 9999800 / 10 = 999980 from rfl, decs_pos (by decide), show 999980 / 10 = 99998 from rfl, decs_pos (by decide), show 99998 / 10 = 9999 from rfl, decs_pos (by decide), show 9999 / 10 = 999 from rfl, decs_pos (by decide), show 999 / 10 = 99 from rfl, decs_pos (by decide), show 99 / 10 = 9 from rfl, decs_pos (by decide), show 9 / 10 = 0 from rfl, decs_zero]; rfl
  have et : (txt 9999800001).toList == ([57, 57, 57, 57, 56, 48, 48, 48, 48, 49] : List UInt8) := by
    unfold txt
    rw [if_neg (by decide), ed]
    decide +kernel
  rw [et]
  simp -implicitDefEqProofs only [if_true]
  exact Ev.now _

theorem ref31_Good_ev {l : List Int} (hu : UL l) (hl : l.length < 4294967296) : Ev (fun k => abacistref31_Good.f k l) (hk_good l) := by
  have last : hk_big l = false → Ev (fun k => abacistref31_Good.l0 k l (l.length : Int)) (hk_good l) := fun hb => by
    refine Ev.step (fun k => abacistref31_Good.l0.eq_2 ..) ?_
    simp -implicitDefEqProofs only [Int.lt_irrefl, if_false]
    unfold hk_good
    by_cases c1 : 65536 < l.length
    · simp -implicitDefEqProofs only [show ¬ (l.length : Int) ≤ 65536 by omega, if_false, c1, if_true]
      exact Ev.now _
    · simp -implicitDefEqProofs only [show (l.length : Int) ≤ 65536 by omega, if_true, c1, if_false]
      by_cases c2 : l.length = 0
      · simp -implicitDefEqProofs only [show (l.length : Int) = 0 by omega, if_true, show ¬ (0 < l.length ∧ rd l ((0 : Int) - 1) = 0) by omega, if_false, hb]
        exact Ev.now _
      · simp -implicitDefEqProofs only [show ¬ (l.length : Int) = 0 by omega, if_false, len64 (show l.length < 9223372036854775807 by omega), show (0 : Int) ≤ (l.length : Int) - 1 by omega, if_true, show (l.length : Int) - 1 < (l.length : Int) by omega]
        by_cases c3 : rd l ((l.length : Int) - 1) = 0
        · rw [if_pos ⟨by omega, c3⟩, c3]
          exact Ev.now _
        · rw [if_neg (fun h => c3 h.2), hb, show (rd l ((l.length : Int) - 1) != 0) = true from bne_iff_ne.2 c3]
          exact Ev.now _
  have bad : ∀ i, i < l.length → ¬ l.getD i 0 < 65536 → hk_good l = false := fun i hi h => by
    rcases hg : hk_good l with _ | _
    · rfl
    · have := Dg_getD ((hk_good_iff hu).1 hg).1.Dg i
      omega
  unfold abacistref31_Good.f
  have key : ∀ (d i : Nat), i + d = l.length → (∀ j, j < i → l.getD j 0 < 65536) → Ev (fun k => abacistref31_Good.l0 k l (i : Int)) (hk_good l) := by
    intro d
    induction d with
    | zero =>
      intro i hi h
      obtain rfl : i = l.length := by omega
      refine last ((hk_big_false hu).2 (fun x hx => ?_))
      obtain ⟨j, hj, rfl⟩ := List.mem_iff_getElem.1 hx
      have h1 := h j hj
      have h2 := hu _ hx
      rw [List.getD_eq_getElem?_getD, List.getElem?_eq_getElem hj] at h1
      exact ⟨h2.1, h1⟩
    | succ d ih =>
      intro i hi h
      refine Ev.step (fun k => abacistref31_Good.l0.eq_2 ..) ?_
      simp -implicitDefEqProofs only [show (i : Int) < (l.length : Int) by omega, if_true, show (0 : Int) ≤ (i : Int) by omega, rd_nat]
      by_cases c : l.getD i 0 ≥ 65536
      · simp -implicitDefEqProofs only [c, if_true]
        rw [bad i (by omega) (by omega)]
        exact Ev.now _
      · simp -implicitDefEqProofs only [c, if_false, nat64_succ (show i < 9223372036854775807 by omega)]
        refine ih (i + 1) (by omega) (fun j hj => ?_)
        rcases Nat.lt_or_ge j i with g | g
        · exact h j g
        · obtain rfl : j = i := by omega
          omega
  exact key l.length 0 (by omega) (fun j hj => absurd hj (by omega))

theorem ref31_get_eq (l : List Int) (i : Nat) : abacistref31_get.f l (i : Int) = some (l.getD i 0) := by
  unfold abacistref31_get.f
  by_cases c : i < l.length
  · rw [if_pos (by omega), if_pos (by omega), rd_nat]
  · rw [if_neg (by omega), List.getD_eq_getElem?_getD, List.getElem?_eq_none (by omega)]; rfl

theorem trz_snoc (l : List Int) (d : Int) : trz (l ++ [d]) = if d = 0 then trz l else l ++ [d] := by
  induction l with
  | nil =>
    show (if trz [] = [] ∧ d = 0 then [] else d :: trz []) = _
    by_cases c : d = 0
    · rw [if_pos ⟨rfl, c⟩, if_pos c]; rfl
    · rw [if_neg (fun h => c h.2), if_neg c]; rfl
  | cons x t ih =>
    rw [List.cons_append, trz_cons, ih]
    by_cases c : d = 0
    · rw [if_pos c, if_pos c, trz_cons]
    · rw [if_neg c, if_neg c, if_neg (fun h => by have := h.1; simp at this)]
theorem take_snoc {l : List Int} {i : Nat} (h : i < l.length) : l.take (i + 1) = l.take i ++ [l.getD i 0] := by
  rw [List.take_add_one, List.getD_eq_getElem?_getD, List.getElem?_eq_getElem h]; rfl
theorem ref31_trim_ev {l : List Int} (hl : l.length < 4294967296) : Ev (fun k => abacistref31_trim.f k l) (trz l) := by
  unfold abacistref31_trim.f
  have key : ∀ (d i : Nat), i + d = l.length → Ev (fun k => abacistref31_trim.l0 k l ((trz (l.take i)).length : Int) (i : Int)) (trz l) := by
    intro d
    induction d with
    | zero =>
      intro i hi
      obtain rfl : i = l.length := by omega
      refine Ev.step (fun k => abacistref31_trim.l0.eq_2 ..) ?_
      have h1 := trz_length l
      rw [List.take_length]
      simp -implicitDefEqProofs only [Int.lt_irrefl, if_false, Option.bind_some, show (0 : Int) ≤ ((trz l).length : Int) by omega, if_true, show ((trz l).length : Int) ≤ (l.length : Int) by omega, Int.toNat_natCast, trz_take, List.length_nil, List.nil_append, show 0 + (trz l).length < 17592186044416 by omega]
      exact Ev.now _
    | succ d ih =>
      intro i hi
      have ih := ih (i + 1) (by omega)
      rw [take_snoc (show i < l.length by omega), trz_snoc] at ih
      refine Ev.step (fun k => abacistref31_trim.l0.eq_2 ..) ?_
      simp -implicitDefEqProofs only [show (i : Int) < (l.length : Int) by omega, if_true, show (0 : Int) ≤ (i : Int) by omega, rd_nat, nat64_succ (show i < 9223372036854775807 by omega)]
      by_cases c : l.getD i 0 = 0
      · rw [if_pos c] at ih
        simp -implicitDefEqProofs only [c, if_true]
        exact ih
      · rw [if_neg c, List.length_append, List.length_singleton, List.length_take, Nat.min_eq_left (by omega)] at ih
        simp -implicitDefEqProofs only [c, if_false]
        exact ih
  exact key l.length 0 (by omega)
theorem ref31_trim_dgs {l : List Int} (h : Dg l) (hl : l.length < 4294967296) : Ev (fun k => abacistref31_trim.f k l) (dgs (nv l)) := by
  rw [← trz_dgs h]; exact ref31_trim_ev hl

theorem ref31_Add_ev {a b : List Int} (ha : Dg a) (hb : Dg b) (hla : a.length < 1073741824) (hlb : b.length < 1073741824) : Ev (fun k => abacistref31_Add.f k a b) (dgs (nv a + nv b)) := by
  unfold abacistref31_Add.f
  obtain ⟨M, hM⟩ : ∃ M, M = max a.length b.length := ⟨_, rfl⟩
  have stop : ∀ (i : Nat) (o : List Int), M ≤ i → Dg o → o.length = i → i ≤ 2147483648 → nv o = ns i (dgt a) + ns i (dgt b) → Ev (fun k => abacistref31_Add.l0 k a b o 0 (i : Int)) (dgs (nv a + nv b)) := by
    intro i o hi ho hol hlt hv
    refine Ev.step (fun k => abacistref31_Add.l0.eq_2 ..) ?_
    simp -implicitDefEqProofs only [show ¬ (i : Int) < (a.length : Int) by omega, show ¬ (i : Int) < (b.length : Int) by omega, if_false, show decide ((0 : Int) > 0) = false from rfl]
    refine Ev.step (fun k => abacistref31_Add.j1.eq_2 ..) ?_
    simp -implicitDefEqProofs only [Bool.false_eq_true, if_false]
    rw [ns_dgt (by omega), ns_dgt (by omega)] at hv
    rw [← hv]
    refine Ev.bind (ref31_trim_dgs ho (by omega)) ?_
    exact Ev.now _
  have body : ∀ (i c : Nat) (o : List Int), i < 2147483648 → c ≤ 1 → Dg o → o.length = i → nv o + c * 65536 ^ i = ns i (dgt a) + ns i (dgt b) →
      (∀ (c2 : Nat) (o2 : List Int), c2 ≤ 1 → (M ≤ i → c2 = 0) → Dg o2 → o2.length = i + 1 → nv o2 + c2 * 65536 ^ (i + 1) = ns (i + 1) (dgt a) + ns (i + 1) (dgt b) → Ev (fun k => abacistref31_Add.l0 k a b o2 (c2 : Int) ((i + 1 : Nat) : Int)) (dgs (nv a + nv b))) →
      Ev (fun k => abacistref31_Add.j1 k a b o (c : Int) (i : Int) true) (dgs (nv a + nv b)) := by
    intro i c o hi hc ho hol hv next
    have h1 := dgt_lt ha i
    have h2 := dgt_lt hb i
    refine Ev.step (fun k => abacistref31_Add.j1.eq_2 ..) ?_
    have e1 : IntKind.u64.wrap ((dgt a i : Int) + (dgt b i : Int)) = ((dgt a i + dgt b i : Nat) : Int) := by rw [← Int.natCast_add]; exact wu64_nat (by omega)
    have e2 : IntKind.u64.wrap (((dgt a i + dgt b i : Nat) : Int) + (c : Int)) = ((dgt a i + dgt b i + c : Nat) : Int) := by rw [← Int.natCast_add]; exact wu64_nat (by omega)
    simp -implicitDefEqProofs only [if_true, ref31_get_eq, Option.bind_some, show o.length < 17592186044416 by omega, getD_dgt ha, getD_dgt hb, e1, e2, tm16, td16, wu64_nat (show (dgt a i + dgt b i + c) / 65536 < 18446744073709551616 by omega), nat64_succ (show i < 9223372036854775807 by omega)]
    refine next ((dgt a i + dgt b i + c) / 65536) (o ++ [(((dgt a i + dgt b i + c) % 65536 : Nat) : Int)]) (by omega) (fun hMi => ?_) (Dg_append ho (Dg_one (by omega) (by omega))) (by rw [List.length_append, List.length_singleton, hol]) ?_
    · rw [dgt_out (l := a) (i := i) (by omega), dgt_out (l := b) (i := i) (by omega)]; omega
    · rw [nv_snoc, hol, Nat.pow_succ, Int.toNat_natCast, carry_step _ _ _ _ rfl, ns_snoc, ns_snoc]
      rw [show nv o + (dgt a i + dgt b i + c) * 65536 ^ i = (nv o + c * 65536 ^ i) + dgt a i * 65536 ^ i + dgt b i * 65536 ^ i by grind, hv]
      omega
  have at0 : ∀ (i c : Nat) (o : List Int), i < 2147483648 → c ≤ 1 → Dg o → o.length = i → M ≤ i → nv o + c * 65536 ^ i = ns i (dgt a) + ns i (dgt b) → Ev (fun k => abacistref31_Add.l0 k a b o (c : Int) (i : Int)) (dgs (nv a + nv b)) := by
    intro i c o hi hc ho hol hMi hv
    by_cases c0 : c = 0
    · subst c0
      exact stop i o hMi ho hol (by omega) (by omega)
    · refine Ev.step (fun k => abacistref31_Add.l0.eq_2 ..) ?_
      simp -implicitDefEqProofs only [show ¬ (i : Int) < (a.length : Int) by omega, show ¬ (i : Int) < (b.length : Int) by omega, if_false, decide_eq_true (show (c : Int) > 0 by omega)]
      refine body i c o hi hc ho hol hv (fun c2 o2 h1 h2 h3 h4 h5 => ?_)
      have h6 := h2 hMi
      subst h6
      exact stop (i + 1) o2 (by omega) h3 h4 (by omega) (by omega)
  have key : ∀ (d i c : Nat) (o : List Int), i + d = M → c ≤ 1 → Dg o → o.length = i → nv o + c * 65536 ^ i = ns i (dgt a) + ns i (dgt b) → Ev (fun k => abacistref31_Add.l0 k a b o (c : Int) (i : Int)) (dgs (nv a + nv b)) := by
    intro d
    induction d with
    | zero =>
      intro i c o hi hc ho hol hv
      exact at0 i c o (by omega) hc ho hol (by omega) hv
    | succ d ih =>
      intro i c o hi hc ho hol hv
      have hb := body i c o (by omega) hc ho hol hv (fun c2 o2 h1 h2 h3 h4 h5 => ih (i + 1) c2 o2 (by omega) h1 h3 h4 h5)
      refine Ev.step (fun k => abacistref31_Add.l0.eq_2 ..) ?_
      by_cases ca : i < a.length
      · simp -implicitDefEqProofs only [show (i : Int) < (a.length : Int) by omega, if_true]
        exact hb
      · simp -implicitDefEqProofs only [show ¬ (i : Int) < (a.length : Int) by omega, if_false, show (i : Int) < (b.length : Int) by omega, if_true]
        exact hb
  exact key M 0 0 [] (by omega) (by omega) Dg_nil rfl rfl

theorem ref31_Small_ev {a : List Int} (ha : Dg a) (hla : a.length < 1073741824) {n c : Nat} (hn : n < 65536) (hc : c < 65536) : Ev (fun k => abacistref31_Small.f k a (n : Int) (c : Int)) (dgs (nv a * n + c)) := by
  unfold abacistref31_Small.f
  have stop : ∀ (i : Nat) (o : List Int), a.length ≤ i → Dg o → o.length = i → i ≤ 2147483648 → nv o = ns i (dgt a) * n + c → Ev (fun k => abacistref31_Small.l0 k a (n : Int) 0 o (i : Int)) (dgs (nv a * n + c)) := by
    intro i o hi ho hol hlt hv
    refine Ev.step (fun k => abacistref31_Small.l0.eq_2 ..) ?_
    simp -implicitDefEqProofs only [show ¬ (i : Int) < (a.length : Int) by omega, if_false, show ¬ ((0 : Int) > 0) by decide]
    rw [ns_dgt (by omega)] at hv
    rw [← hv]
    refine Ev.bind (ref31_trim_dgs ho (by omega)) ?_
    exact Ev.now _
  have hs : ∀ (i e : Nat), e < 65536 → dgt a i * n + e < 4294967296 := fun i e he => by
    have h1 := dgt_lt ha i
    have := Nat.mul_le_mul (show dgt a i ≤ 65535 by omega) (show n ≤ 65535 by omega)
    omega
  have w1 : ∀ i : Nat, IntKind.u64.wrap ((dgt a i : Int) * (n : Int)) = ((dgt a i * n : Nat) : Int) := fun i => by rw [← Int.natCast_mul]; exact wu64_nat (by have := hs i 0 (by decide); omega)
  have w2 : ∀ (i e : Nat), e < 65536 → IntKind.u64.wrap (((dgt a i * n : Nat) : Int) + (e : Int)) = ((dgt a i * n + e : Nat) : Int) := fun i e he => by rw [← Int.natCast_add]; exact wu64_nat (by have := hs i e he; omega)
  have vv : ∀ (i e : Nat) (o : List Int), o.length = i → nv o + e * 65536 ^ i = ns i (dgt a) * n + c → nv (o ++ [(((dgt a i * n + e) % 65536 : Nat) : Int)]) + (dgt a i * n + e) / 65536 * 65536 ^ (i + 1) = ns (i + 1) (dgt a) * n + c := by
    intro i e o hol hv
    rw [nv_snoc, hol, Nat.pow_succ, Int.toNat_natCast, carry_step _ _ _ _ rfl, ns_snoc]
    rw [show nv o + (dgt a i * n + e) * 65536 ^ i = (nv o + e * 65536 ^ i) + dgt a i * n * 65536 ^ i by grind, hv]
    grind
  have key : ∀ (d i e : Nat) (o : List Int), i + d = a.length → e < 65536 → Dg o → o.length = i → nv o + e * 65536 ^ i = ns i (dgt a) * n + c → Ev (fun k => abacistref31_Small.l0 k a (n : Int) (e : Int) o (i : Int)) (dgs (nv a * n + c)) := by
    intro d
    induction d with
    | zero =>
      intro i e o hi he ho hol hv
      by_cases e0 : e = 0
      · subst e0
        exact stop i o (by omega) ho hol (by omega) (by omega)
      · have h0 : dgt a i = 0 := dgt_out (by omega)
        have hv2 := vv i e o hol hv
        have hg := hs i e he
        rw [h0, Nat.zero_mul, Nat.zero_add, show e / 65536 = 0 by omega, Nat.zero_mul, Nat.add_zero, show e % 65536 = e by omega] at hv2
        refine Ev.step (fun k => abacistref31_Small.l0.eq_2 ..) ?_
        have w3 := w2 i e he
        have w4 := w1 i
        rw [h0, Nat.zero_mul, Nat.zero_add] at w3
        rw [h0, Nat.zero_mul] at w4
        have t1 : Int.tmod (e : Int) 65536 = (e : Int) := by rw [tm16, show e % 65536 = e by omega]
        have t2 : Int.tdiv (e : Int) 65536 = 0 := by rw [td16, show e / 65536 = 0 by omega]; rfl
        have t3 : IntKind.u64.wrap 0 = 0 := by decide
        simp -implicitDefEqProofs only [show ¬ (i : Int) < (a.length : Int) by omega, if_false, show (e : Int) > 0 by omega, if_true, ref31_get_eq, getD_dgt ha, h0, Option.bind_some, show o.length < 17592186044416 by omega, w4, w3, t1, t2, t3, nat64_succ (show i < 9223372036854775807 by omega)]
        exact stop (i + 1) (o ++ [(e : Int)]) (by omega) (Dg_append ho (Dg_one (by omega) (by omega))) (by rw [List.length_append, List.length_singleton, hol]) (by omega) hv2
    | succ d ih =>
      intro i e o hi he ho hol hv
      have hg := hs i e he
      refine Ev.step (fun k => abacistref31_Small.l0.eq_2 ..) ?_
      simp -implicitDefEqProofs only [show (i : Int) < (a.length : Int) by omega, if_true, ref31_get_eq, getD_dgt ha, Option.bind_some, show o.length < 17592186044416 by omega, w1, w2 i e he, tm16, td16, wu64_nat (show (dgt a i * n + e) / 65536 < 18446744073709551616 by omega), nat64_succ (show i < 9223372036854775807 by omega)]
      exact ih (i + 1) ((dgt a i * n + e) / 65536) _ (by omega) (by omega) (Dg_append ho (Dg_one (by omega) (by omega))) (by rw [List.length_append, List.length_singleton, hol]) (vv i e o hol hv)
  have := key a.length 0 c [] (by omega) hc Dg_nil rfl (by show 0 + c * 1 = 0 * n + c; omega)
  exact this

theorem ns_le {i n : Nat} (h : i ≤ n) (f : Nat → Nat) : ns i f ≤ ns n f := by
  induction n with
  | zero => rw [show i = 0 by omega]; exact Nat.le_refl _
  | succ n ih =>
    rcases Nat.lt_or_ge n i with d | d
    · rw [show i = n + 1 by omega]; exact Nat.le_refl _
    · exact Nat.le_trans (ih d) (Nat.le_add_right _ _)
theorem ref31_Mul_ev {a b : List Int} (ha : Dg a) (hb : Dg b) (hl : a.length + b.length < 1048576) : Ev (fun k => abacistref31_Mul.f k a b) (dgs (nv a * nv b)) := by
  unfold abacistref31_Mul.f
  have bound : ∀ i, i ≤ b.length → (dgs (nv a * ns i (dgt b))).length ≤ a.length + b.length := fun i hi => by
    apply dgs_length_lt
    have h1 := nv_lt ha
    have h2 := nv_lt hb
    have h3 : ns i (dgt b) ≤ nv b := by
      rw [← ns_dgt (l := b) (Nat.le_refl _)]
      exact ns_le hi _
    rw [Nat.pow_add]
    exact Nat.mul_lt_mul'' h1 (by omega)
  have key : ∀ (d i : Nat), i + d = b.length → Ev (fun k => abacistref31_Mul.l0 k a b (dgs (nv a * ns i (dgt b))) (i : Int)) (dgs (nv a * nv b)) := by
    intro d
    induction d with
    | zero =>
      intro i hi
      obtain rfl : i = b.length := by omega
      refine Ev.step (fun k => abacistref31_Mul.l0.eq_2 ..) ?_
      simp -implicitDefEqProofs only [Int.lt_irrefl, if_false]
      rw [ns_dgt (Nat.le_refl _)]
      exact Ev.now _
    | succ d ih =>
      intro i hi
      have ih := ih (i + 1) (by omega)
      have hd := dgt_lt hb i
      have hbd := bound i (by omega)
      refine Ev.step (fun k => abacistref31_Mul.l0.eq_2 ..) ?_
      simp -implicitDefEqProofs only [show (i : Int) < (b.length : Int) by omega, if_true, show (0 : Int) ≤ (i : Int) by omega, Int.toNat_natCast, show i ≤ 35184372088832 by omega, Option.bind_some, rd_nat, getD_dgt hb, List.length_replicate]
      have hS := ref31_Small_ev ha (by omega) (n := dgt b i) (c := 0) hd (by decide)
      rw [Nat.add_zero] at hS
      refine Ev.bind hS ?_
      have hsl : (dgs (nv a * dgt b i)).length ≤ a.length + 1 := by
        apply dgs_length_lt
        rw [Nat.pow_succ]
        exact Nat.mul_lt_mul'' (nv_lt ha) hd
      simp -implicitDefEqProofs only [show i + (dgs (nv a * dgt b i)).length < 17592186044416 by omega, if_true, nat64_succ (show i < 9223372036854775807 by omega)]
      refine Ev.bind (ref31_Add_ev (Dg_dgs _) (Dg_append (Dg_zeros i) (Dg_dgs _)) (by omega) (by rw [List.length_append, List.length_replicate]; omega)) ?_
      rw [nv_dgs, nv_zeros, nv_dgs]
      rw [ns_snoc] at ih
      rw [show nv a * ns i (dgt b) + 65536 ^ i * (nv a * dgt b i) = nv a * (ns i (dgt b) + dgt b i * 65536 ^ i) by grind]
      exact ih
  have := key b.length 0 (by omega)
  rw [show ns 0 (dgt b) = 0 from rfl, Nat.mul_zero, dgs_zero] at this
  exact this

theorem natural_DivSmall_ev {a : List Int} (ha : Nt a) (hl : a.length ≤ 65536) {n : Nat} (h0 : 0 < n) (hn : n ≤ 4294967296) : Ev (fun k => natural_DivSmall.f k a (n : Int)) (dgs (nv a / n), ((nv a % n : Nat) : Int), 0) := by
  unfold natural_DivSmall.f
  rw [natural_Good_eq, Nt_good ha hl]
  simp -implicitDefEqProofs only [Option.bind_some, if_true, show ¬ (n : Int) = 0 by omega, if_false, show ¬ (n : Int) > 4294967296 by omega]
  refine Ev.bind (natural_divSmall_ev ha.Dg (by omega) h0 hn) ?_
  exact Ev.now _
theorem natural_DivSmall_zero {a : List Int} (h : hk_good a = true) : Ev (fun k => natural_DivSmall.f k a 0) ([], 0, 13) := by
  unfold natural_DivSmall.f
  rw [natural_Good_eq, h]
  simp -implicitDefEqProofs only [Option.bind_some, if_true]
  exact Ev.now _
theorem natural_DivSmall_large {a : List Int} (h : hk_good a = true) {n : Int} (hn : 4294967296 < n) : Ev (fun k => natural_DivSmall.f k a n) ([], 0, 1) := by
  unfold natural_DivSmall.f
  rw [natural_Good_eq, h]
  simp -implicitDefEqProofs only [Option.bind_some, if_true, show ¬ n = 0 by omega, if_false, show n > 4294967296 by omega]
  exact Ev.now _
theorem natural_DivSmall_no {a : List Int} (h : hk_good a = false) (n : Int) : Ev (fun k => natural_DivSmall.f k a n) ([], 0, 10) := by
  unfold natural_DivSmall.f
  rw [natural_Good_eq, h]
  simp -implicitDefEqProofs only [Option.bind_some, Bool.false_eq_true, if_false]
  exact Ev.now _

/-- How two numbers compare. -/
def ordr (a b : Int) : Int := if a < b then -1 else if a > b then 1 else 0
theorem cmp_Compare_int_eq (a b : Int) : cmp_Compare_int.f a b = some (ordr a b) := by
  unfold cmp_Compare_int.f cmp_isNaN_int.f ordr
  simp only [bne_self_eq_false, Option.bind_some, Bool.false_eq_true, if_false]
  by_cases c : a < b
  · rw [if_pos c, if_pos c]
  · rw [if_neg c, if_neg c]
    by_cases d : a > b
    · rw [if_pos d, if_pos d]
    · rw [if_neg d, if_neg d]

theorem cmp_Compare_uint64_eq (a b : Int) : cmp_Compare_uint64.f a b = some (ordr a b) := by
  unfold cmp_Compare_uint64.f cmp_isNaN_uint64.f ordr
  simp only [bne_self_eq_false, Option.bind_some, Bool.false_eq_true, if_false]
  by_cases c : a < b
  · rw [if_pos c, if_pos c]
  · rw [if_neg c, if_neg c]
    by_cases d : a > b
    · rw [if_pos d, if_pos d]
    · rw [if_neg d, if_neg d]

theorem ordr_nat {a b : Nat} (h : a < b) : ordr (a : Int) (b : Int) = -1 := if_pos (by omega)
theorem ordr_gt {a b : Nat} (h : b < a) : ordr (a : Int) (b : Int) = 1 := by unfold ordr; rw [if_neg (by omega), if_pos (by omega)]
theorem ordr_eq (a : Int) : ordr a a = 0 := by unfold ordr; rw [if_neg (by omega), if_neg (by omega)]
theorem ordr_lt {a b : Int} (h : a < b) : ordr a b = -1 := if_pos h
theorem ordr_gt' {a b : Int} (h : b < a) : ordr a b = 1 := by unfold ordr; rw [if_neg (by omega), if_pos (by omega)]
theorem natural_compare_ev {a b : List Int} (ha : Nt a) (hb : Nt b) (hl : a.length < 4294967296) : Ev (fun k => natural_compare.f k a b) (ordr (nv a : Int) (nv b : Int)) := by
  unfold natural_compare.f
  rw [cmp_Compare_int_eq]
  simp -implicitDefEqProofs only [Option.bind_some]
  by_cases c : a.length = b.length
  · rw [show (a.length : Int) = (b.length : Int) by omega, ordr_eq]
    simp -implicitDefEqProofs only [if_true]
    rw [← c, len64 (show a.length < 9223372036854775807 by omega)]
    have key : ∀ i, i ≤ a.length → nv (a.drop i) = nv (b.drop i) → Ev (fun k => natural_compare.l0 k a b ((i : Int) - 1)) (ordr (nv a : Int) (nv b : Int)) := by
      intro i
      induction i with
      | zero =>
        intro _ he
        refine Ev.step (fun k => natural_compare.l0.eq_2 ..) ?_
        simp -implicitDefEqProofs only [show ¬ (((0 : Nat) : Int) - 1 ≥ 0) by omega, if_false]
        rw [List.drop_zero, List.drop_zero] at he
        rw [he, ordr_eq]
        exact Ev.now _
      | succ i ih =>
        intro hi he
        refine Ev.step (fun k => natural_compare.l0.eq_2 ..) ?_
        simp -implicitDefEqProofs only [down_at, show (i : Int) ≥ 0 by omega, if_true, show (0 : Int) ≤ (i : Int) by omega, show (i : Int) < (a.length : Int) by omega, show (i : Int) < (b.length : Int) by omega, rd_nat, down_next (show i < 9223372036854775807 by omega), cmp_Compare_uint64_eq, Option.bind_some]
        by_cases d : a.getD i 0 = b.getD i 0
        · rw [d, ordr_eq]
          simp -implicitDefEqProofs only [if_true]
          exact ih (by omega) (by rw [nv_drop_digit a i (by omega), nv_drop_digit b i (by omega), he, d])
        · by_cases g : a.getD i 0 < b.getD i 0
          · rw [ordr_lt g, ordr_nat (nv_less_at ha.Dg hb.Dg (by omega) (by omega) he g)]
            simp -implicitDefEqProofs only [show ¬ ((-1 : Int) = 0) by decide, if_false]
            exact Ev.now _
          · have := nv_less_at hb.Dg ha.Dg (i := i) (by omega) (by omega) he.symm (by omega)
            rw [ordr_gt' (show b.getD i 0 < a.getD i 0 by omega), ordr_gt this]
            simp -implicitDefEqProofs only [show ¬ ((1 : Int) = 0) by decide, if_false]
            exact Ev.now _
    exact key a.length (Nat.le_refl _) (by rw [List.drop_length, List.drop_of_length_le (by omega)])
  · by_cases g : a.length < b.length
    · rw [ordr_nat g, ordr_nat (nv_less_len ha hb g)]
      simp -implicitDefEqProofs only [show ¬ ((-1 : Int) = 0) by decide, if_false]
      exact Ev.now _
    · rw [ordr_gt (show b.length < a.length by omega), ordr_gt (nv_less_len hb ha (by omega))]
      simp -implicitDefEqProofs only [show ¬ ((1 : Int) = 0) by decide, if_false]
      exact Ev.now _

theorem set_after : ∀ (o : List Int) (x d : Int) (t : List Int), (o ++ x :: t).set o.length d = o ++ [d] ++ t
  | [], _, _, _ => rfl
  | y :: o, x, d, t => by
    have ih := set_after o x d t
    rw [List.cons_append, List.length_cons, List.set_cons_succ, ih]; rfl
theorem natural_sub_ev {a b : List Int} (ha : Nt a) (hb : Nt b) (hl : a.length < 4294967296) (h : nv b ≤ nv a) : Ev (fun k => natural_sub.f k a b) (dgs (nv a - nv b)) := by
  have hlb : b.length ≤ a.length := by
    rcases Nat.lt_or_ge a.length b.length with d | d
    · have := nv_less_len ha hb d; omega
    · exact d
  unfold natural_sub.f
  simp -implicitDefEqProofs only [show (0 : Int) ≤ (a.length : Int) by omega, if_true, Int.toNat_natCast, show a.length ≤ 35184372088832 by omega]
  have dig : ∀ (x y c : Nat), x < 65536 → y < 65536 → c ≤ 1 → ∃ z e : Nat, z < 65536 ∧ e ≤ 1 ∧ x + e * 65536 = z + y + c ∧ Int.tmod (IntKind.u64.wrap (IntKind.u64.wrap ((x : Int) - (c : Int)) - (y : Int))) 65536 = (z : Int) ∧ IntKind.u64.wrap (IntKind.u64.wrap ((x : Int) - (c : Int)) - (y : Int)) / 9223372036854775808 = (e : Int) := fun x y c hx hy hc => by
    have e0 : IntKind.u64.wrap (IntKind.u64.wrap ((x : Int) - (c : Int)) - (y : Int)) = ((x : Int) - (c : Int) - (y : Int)) % 18446744073709551616 := by rw [wu64, wu64]; omega
    rw [e0]
    by_cases g : y + c ≤ x
    · refine ⟨x - y - c, 0, by omega, by omega, by omega, ?_, ?_⟩
      · rw [show ((x : Int) - (c : Int) - (y : Int)) % 18446744073709551616 = ((x - y - c : Nat) : Int) by omega, tm16, Nat.mod_eq_of_lt (by omega)]
      · omega
    · refine ⟨x + 65536 - y - c, 1, by omega, by omega, by omega, ?_, ?_⟩
      · rw [show ((x : Int) - (c : Int) - (y : Int)) % 18446744073709551616 = ((18446744073709551616 + x - y - c : Nat) : Int) by omega, tm16]
        congr 1
        omega
      · omega
  have zer : ∀ (x c : Nat), c ≤ 1 → IntKind.u64.wrap ((x : Int) - (c : Int)) = IntKind.u64.wrap (IntKind.u64.wrap ((x : Int) - (c : Int)) - ((0 : Nat) : Int)) := fun x c _ => by rw [wu64, wu64]; omega
  have key : ∀ (d i c : Nat) (o : List Int), i + d = a.length → c ≤ 1 → Dg o → o.length = i → ns i (dgt a) + c * 65536 ^ i = nv o + ns i (dgt b) → Ev (fun k => natural_sub.l0 k b (o ++ List.replicate (a.length - i) 0) (c : Int) a (a.length : Int) (i : Int)) (dgs (nv a - nv b)) := by
    intro d
    induction d with
    | zero =>
      intro i c o hi hc ho hol hv
      obtain rfl : i = a.length := by omega
      refine Ev.step (fun k => natural_sub.l0.eq_2 ..) ?_
      rw [Nat.sub_self, List.replicate_zero, List.append_nil]
      simp -implicitDefEqProofs only [Int.lt_irrefl, if_false, natural_trim_dgs ho, Option.bind_some]
      rw [ns_dgt (Nat.le_refl _), ns_dgt hlb] at hv
      have hlt := nv_lt ho
      rw [hol] at hlt
      have c0 : c = 0 := by
        rcases Nat.eq_zero_or_pos c with e | e
        · exact e
        · have : c = 1 := by omega
          subst this
          omega
      subst c0
      rw [show nv a - nv b = nv o by omega]
      exact Ev.now _
    | succ d ih =>
      intro i c o hi hc ho hol hv
      obtain ⟨z, e, hz, he, hze, ez, ee⟩ := dig (dgt a i) (dgt b i) c (dgt_lt ha.Dg i) (dgt_lt hb.Dg i) hc
      have hlen : (o ++ List.replicate (a.length - i) (0 : Int)).length = a.length := by rw [List.length_append, List.length_replicate]; omega
      have hset : (o ++ List.replicate (a.length - i) (0 : Int)).set i (z : Int) = (o ++ [(z : Int)]) ++ List.replicate (a.length - (i + 1)) 0 := by
        rw [show a.length - i = (a.length - (i + 1)) + 1 by omega, List.replicate_succ, ← hol]
        exact set_after o _ _ _
      have hv2 : ns (i + 1) (dgt a) + e * 65536 ^ (i + 1) = nv (o ++ [(z : Int)]) + ns (i + 1) (dgt b) := by
        rw [ns_snoc, ns_snoc, nv_snoc, hol, Nat.pow_succ, Int.toNat_natCast]
        have h1 : dgt a i * 65536 ^ i + e * (65536 ^ i * 65536) = (dgt a i + e * 65536) * 65536 ^ i := by grind
        have h2 : (z + dgt b i + c) * 65536 ^ i = 65536 ^ i * z + dgt b i * 65536 ^ i + c * 65536 ^ i := by grind
        rw [hze, h2] at h1
        omega
      have ih2 := ih (i + 1) e (o ++ [(z : Int)]) (by omega) he (Dg_append ho (Dg_one (by omega) (by omega))) (by rw [List.length_append, List.length_singleton, hol]) hv2
      refine Ev.step (fun k => natural_sub.l0.eq_2 ..) ?_
      simp -implicitDefEqProofs only [show (i : Int) < (a.length : Int) by omega, if_true, show (0 : Int) ≤ (i : Int) by omega, rd_nat, getD_dgt ha.Dg, getD_dgt hb.Dg, hlen, Int.toNat_natCast, nat64_succ (show i < 9223372036854775807 by omega)]
      by_cases g : i < b.length
      · simp -implicitDefEqProofs only [show (i : Int) < (b.length : Int) by omega, if_true, ez, ee, hset]
        exact ih2
      · have hb0 : dgt b i = 0 := dgt_out (by omega)
        rw [hb0] at ez ee
        rw [← zer _ _ hc] at ez ee
        simp -implicitDefEqProofs only [show ¬ (i : Int) < (b.length : Int) by omega, if_false, ez, ee, hset]
        exact ih2
  have := key a.length 0 0 [] (by omega) (by omega) Dg_nil rfl rfl
  rw [List.nil_append] at this
  exact this

theorem nv_set : ∀ (l : List Int) (q : Nat) (v : Int), q < l.length → nv (l.set q v) + (l.getD q 0).toNat * 65536 ^ q = nv l + v.toNat * 65536 ^ q
  | [], q, _, h => absurd h (by simp)
  | x :: t, 0, v, _ => by
    show v.toNat + 65536 * nv t + x.toNat * 65536 ^ 0 = x.toNat + 65536 * nv t + v.toNat * 65536 ^ 0
    rw [Nat.pow_zero]; omega
  | x :: t, q + 1, v, h => by
    have ih := nv_set t q v (by simpa using h)
    show x.toNat + 65536 * nv (t.set q v) + (t.getD q 0).toNat * 65536 ^ (q + 1) = x.toNat + 65536 * nv t + v.toNat * 65536 ^ (q + 1)
    rw [Nat.pow_succ]
    have h2 : 65536 * (nv (t.set q v) + (t.getD q 0).toNat * 65536 ^ q) = 65536 * (nv t + v.toNat * 65536 ^ q) := by rw [ih]
    grind
theorem dgs_getD (q : Nat) : ∀ n, (dgs n).getD q 0 = ((n / 65536 ^ q % 65536 : Nat) : Int) := by
  induction q with
  | zero =>
    intro n
    by_cases c : n = 0
    · rw [c, dgs_zero]; rfl
    · rw [dgs_pos c, Nat.pow_zero, Nat.div_one]; rfl
  | succ q ih =>
    intro n
    by_cases c : n = 0
    · rw [c, dgs_zero, Nat.zero_div]; rfl
    · rw [dgs_pos c, show (((n % 65536 : Nat) : Int) :: dgs (n / 65536)).getD (q + 1) 0 = (dgs (n / 65536)).getD q 0 from rfl, ih, Nat.div_div_eq_div_mul, Nat.pow_succ, Nat.mul_comm]
theorem bit_digit {R q r : Nat} (hr : r < 16) (h : R % 2 ^ (16 * q + r + 1) = 0) : ∃ s, R / 65536 ^ q % 65536 = s * 2 ^ (r + 1) ∧ s * 2 ^ (r + 1) + 2 ^ r < 65536 := by
  have h65 : (65536 : Nat) = 2 ^ (r + 1) * 2 ^ (15 - r) := by rw [← Nat.pow_add, show r + 1 + (15 - r) = 16 by omega]
  have hq : (65536 : Nat) ^ q = 2 ^ (16 * q) := by rw [show (65536 : Nat) = 2 ^ 16 from rfl, ← Nat.pow_mul]
  obtain ⟨t, rfl⟩ := Nat.dvd_of_mod_eq_zero h
  have e1 : 2 ^ (16 * q + r + 1) * t / 65536 ^ q = 2 ^ (r + 1) * t := by
    rw [hq, Nat.add_assoc, Nat.pow_add, Nat.mul_assoc, Nat.mul_div_cancel_left _ (Nat.two_pow_pos _)]
  refine ⟨t % 2 ^ (15 - r), ?_, ?_⟩
  · rw [e1]
    have := Nat.mul_mod_mul_left (2 ^ (r + 1)) t (2 ^ (15 - r))
    rw [← h65] at this
    rw [this, Nat.mul_comm]
  · have h1 := Nat.mod_lt t (Nat.two_pow_pos (15 - r))
    have h2 := Nat.mul_le_mul_right (2 ^ (r + 1)) (show t % 2 ^ (15 - r) + 1 ≤ 2 ^ (15 - r) from h1)
    rw [Nat.mul_comm (2 ^ (15 - r)), ← h65, Nat.add_mul, Nat.one_mul] at h2
    have h3 : 2 ^ (r + 1) = 2 ^ r * 2 := Nat.pow_succ ..
    have h4 := Nat.two_pow_pos r
    omega
theorem hk_pad_getD (l : List Int) (m j : Nat) : (hk_pad l m).getD j 0 = l.getD j 0 := by
  unfold hk_pad
  rw [List.getD_eq_getElem?_getD, List.getD_eq_getElem?_getD]
  by_cases c : j < l.length
  · rw [List.getElem?_append_left c]
  · rw [List.getElem?_append_right (by omega), List.getElem?_eq_none (l := l) (by omega), List.getElem?_replicate]
    split <;> rfl
theorem hk_pad_length {l : List Int} {m : Nat} (h : l.length ≤ m) : (hk_pad l m).length = m := by unfold hk_pad; rw [List.length_append, List.length_replicate]; omega
theorem hk_pad_Dg {l : List Int} (h : Dg l) (m : Nat) : Dg (hk_pad l m) := Dg_append h (fun x hx => by
  obtain ⟨_, rfl⟩ := List.mem_replicate.1 hx
  exact ⟨by decide, by decide⟩)
theorem hk_pad_nv (l : List Int) (m : Nat) : nv (hk_pad l m) = nv l := by
  unfold hk_pad
  rw [nv_append]
  have : ∀ j, nv (List.replicate j 0) = 0 := fun j => by
    induction j with
    | zero => rfl
    | succ j ih => rw [List.replicate_succ, nv_cons, ih]; rfl
  rw [this, Nat.mul_zero, Nat.add_zero]
theorem try_length (l : List Int) (b : Nat) : (hk_try l b).length = max l.length (b / 16 + 1) := by
  unfold hk_try
  rw [List.length_set, hk_pad_length (by omega)]
theorem try_dgs {R b : Nat} (h : R % 2 ^ (b + 1) = 0) : hk_try (dgs R) b = dgs (R + 2 ^ b) := by
  obtain ⟨q, hq⟩ : ∃ q, q = b / 16 := ⟨_, rfl⟩
  obtain ⟨r, hr⟩ : ∃ r, r = b % 16 := ⟨_, rfl⟩
  have hb : b = 16 * q + r := by omega
  obtain ⟨s, hs, hs2⟩ := bit_digit (R := R) (q := q) (r := r) (by omega) (by rw [← hb]; exact h)
  have hlen := try_length (dgs R) b
  obtain ⟨m, hm⟩ : ∃ m, m = max (dgs R).length (q + 1) := ⟨_, rfl⟩
  have hpl : (hk_pad (dgs R) m).length = m := hk_pad_length (by omega)
  have hdig : (hk_pad (dgs R) m).getD q 0 = ((s * 2 ^ (r + 1) : Nat) : Int) := by rw [hk_pad_getD, dgs_getD, hs]
  have p2 : 2 ^ r ≤ 2 ^ 15 := Nat.pow_le_pow_right (by decide) (by omega)
  have ew : IntKind.u64.wrap ((2 : Int) ^ r) = ((2 ^ r : Nat) : Int) := by rw [int_two_pow]; exact wu64_of (U_nat (by omega))
  have eo : Go.bits .or .u64 ((s * 2 ^ (r + 1) : Nat) : Int) ((2 ^ r : Nat) : Int) = ((s * 2 ^ (r + 1) + 2 ^ r : Nat) : Int) := or_u64' (Nat.pow_lt_pow_right (by decide) (by omega)) (by omega) (by omega)
  have et : hk_try (dgs R) b = (hk_pad (dgs R) m).set q ((s * 2 ^ (r + 1) + 2 ^ r : Nat) : Int) := by
    unfold hk_try
    rw [← hq, ← hr, ← hm, ew, rd_nat, hdig, eo]
  have hv := nv_set (hk_pad (dgs R) m) q ((s * 2 ^ (r + 1) + 2 ^ r : Nat) : Int) (by omega)
  rw [hdig, Int.toNat_natCast, Int.toNat_natCast, hk_pad_nv, nv_dgs] at hv
  have hv2 : nv (hk_try (dgs R) b) = R + 2 ^ b := by
    rw [et]
    have e2 : 2 ^ b = 2 ^ r * 65536 ^ q := by rw [hb, Nat.pow_add, Nat.mul_comm, show (65536 : Nat) = 2 ^ 16 from rfl, ← Nat.pow_mul]
    rw [Nat.add_mul, ← e2] at hv
    omega
  have hD : Dg (hk_try (dgs R) b) := by
    rw [et]
    intro x hx
    rcases List.mem_or_eq_of_mem_set hx with hx | rfl
    · exact hk_pad_Dg (Dg_dgs R) m x hx
    · exact ⟨Int.natCast_nonneg _, Int.ofNat_lt.2 hs2⟩
  have hN : Nt (hk_try (dgs R) b) := by
    refine Nt_of hD (fun i hi => ?_)
    rw [hlen, ← hq, ← hm] at hi
    rw [et, List.getD_eq_getElem?_getD, List.getElem?_set]
    by_cases c : q = i
    · rw [if_pos c, if_pos (by omega)]
      have := Nat.two_pow_pos r
      simp only [Option.getD_some]
      omega
    · rw [if_neg c, ← List.getD_eq_getElem?_getD, hk_pad_getD]
      exact (Nt_dgs R).last (by omega)
  rw [show hk_try (dgs R) b = dgs (nv (hk_try (dgs R) b)) from hN, hv2]
where
  or_u64' {x y m : Nat} (hy : y < 2 ^ m) (hm : m ≤ 63) (hx : x * 2 ^ m < 18446744073709551616) : Go.bits .or .u64 ((x * 2 ^ m : Nat) : Int) (y : Int) = ((x * 2 ^ m + y : Nat) : Int) := by
    have h1 : 2 ^ m ≤ 2 ^ 63 := Nat.pow_le_pow_right (by decide) hm
    have hb := (bits_nat .u64 64 (by decide) (fun n h0 h1 => by rw [wu64]; omega) (x * 2 ^ m) y (by omega) (by omega)).2
    have e := Nat.two_pow_add_eq_or_of_lt hy x
    rw [hb, Nat.mul_comm x, ← e]
theorem root_len {R A : Nat} (h : R * R ≤ A) : (dgs R).length ≤ (dgs A).length := by
  apply dgs_length_lt
  have h1 := nv_lt (Dg_dgs A)
  rw [nv_dgs] at h1
  rcases Nat.eq_zero_or_pos R with e | e
  · omega
  · have := Nat.le_mul_of_pos_left R e
    omega
theorem hk_root_ev {a : List Int} (ha : Nt a) (hl : a.length ≤ 64) : ∀ (b R : Nat), b ≤ 512 → R % 2 ^ b = 0 → R * R ≤ nv a → nv a < (R + 2 ^ b) * (R + 2 ^ b) → ∃ R', R' * R' ≤ nv a ∧ nv a < (R' + 1) * (R' + 1) ∧ Ev (fun k => hk_root k a b (dgs R)) (dgs R')
  | 0, R, _, _, h1, h2 => ⟨R, h1, by rw [Nat.pow_zero] at h2; exact h2, Ev.now _⟩
  | b + 1, R, hb, hm, h1, h2 => by
    have hR := root_len h1
    rw [← show a = dgs (nv a) from ha] at hR
    have hT := try_dgs hm
    have hTl := try_length (dgs R) b
    rw [hT] at hTl
    have hm2 : R % 2 ^ b = 0 := by
      have := Nat.dvd_of_mod_eq_zero hm
      rw [Nat.pow_succ] at this
      exact Nat.mod_eq_zero_of_dvd (Nat.dvd_trans (Nat.dvd_mul_right _ _) this)
    have h3 : (R + 2 ^ b) % 2 ^ b = 0 := by rw [Nat.add_mod_right]; exact hm2
    have e4 : R + 2 ^ (b + 1) = (R + 2 ^ b) + 2 ^ b := by rw [Nat.pow_succ]; omega
    rw [e4] at h2
    have hE : Ev (fun k => natural_times.f k (hk_try (dgs R) b) (hk_try (dgs R) b)) (dgs ((R + 2 ^ b) * (R + 2 ^ b)), 0) := by
      have := natural_times_ev (Nt_dgs (R + 2 ^ b)) (Nt_dgs (R + 2 ^ b)) (by omega)
      rw [nv_dgs] at this
      rw [hT]
      exact this
    have hml := dgs_mul_length (Dg_dgs (R + 2 ^ b)) (Dg_dgs (R + 2 ^ b))
    rw [nv_dgs] at hml
    have hC : Ev (fun k => natural_compare.f k (dgs ((R + 2 ^ b) * (R + 2 ^ b))) a) (ordr (((R + 2 ^ b) * (R + 2 ^ b) : Nat) : Int) (nv a : Int)) := by
      have := natural_compare_ev (Nt_dgs ((R + 2 ^ b) * (R + 2 ^ b))) ha (by omega)
      rw [nv_dgs] at this
      exact this
    have unf : ∀ k, hk_root k a (b + 1) (dgs R) = (natural_times.f k (hk_try (dgs R) b) (hk_try (dgs R) b)).bind fun q => if q.2 = 0 then (natural_compare.f k q.1 a).bind fun c => if c ≤ 0 then hk_root k a b (hk_try (dgs R) b) else hk_root k a b (dgs R) else hk_root k a b (dgs R) := fun k => by
      show (if (dgs R).length ≤ 4096 ∧ b ≤ 4096 then _ else none) = _
      rw [if_pos ⟨by omega, by omega⟩]
    by_cases c : (R + 2 ^ b) * (R + 2 ^ b) ≤ nv a
    · obtain ⟨R', r1, r2, r3⟩ := hk_root_ev ha hl b (R + 2 ^ b) (by omega) h3 c h2
      refine ⟨R', r1, r2, Ev.congr unf ?_⟩
      refine Ev.bind hE ?_
      simp -implicitDefEqProofs only [if_true]
      refine Ev.bind hC ?_
      have e : ordr (((R + 2 ^ b) * (R + 2 ^ b) : Nat) : Int) (nv a : Int) ≤ 0 := by
        unfold ordr
        generalize (R + 2 ^ b) * (R + 2 ^ b) = z at c ⊢
        split
        · omega
        · rw [if_neg (by omega)]; omega
      simp -implicitDefEqProofs only [e, if_true, hT]
      exact r3
    · obtain ⟨R', r1, r2, r3⟩ := hk_root_ev ha hl b R (by omega) hm2 h1 (by omega)
      refine ⟨R', r1, r2, Ev.congr unf ?_⟩
      refine Ev.bind hE ?_
      simp -implicitDefEqProofs only [if_true]
      refine Ev.bind hC ?_
      have e : ¬ ordr (((R + 2 ^ b) * (R + 2 ^ b) : Nat) : Int) (nv a : Int) ≤ 0 := by
        rw [ordr_gt (by omega)]; decide
      simp -implicitDefEqProofs only [e, if_false]
      exact r3
theorem natural_Root_ev {a : List Int} (ha : Nt a) (hl : a.length ≤ 64) : ∃ R, R * R ≤ nv a ∧ nv a < (R + 1) * (R + 1) ∧ Ev (fun k => natural_Root.f k a) (dgs R, dgs (nv a - R * R), 0) := by
  have hlt := nv_lt ha.Dg
  have e : (65536 : Nat) ^ a.length = (0 + 2 ^ (8 * a.length)) * (0 + 2 ^ (8 * a.length)) := by
    rw [Nat.zero_add, ← Nat.pow_add, show 8 * a.length + 8 * a.length = 16 * a.length by omega, Nat.pow_mul]
  obtain ⟨R, r1, r2, r3⟩ := hk_root_ev ha hl (8 * a.length) 0 (by omega) (Nat.zero_mod _) (Nat.zero_le _) (by rw [← e]; exact hlt)
  refine ⟨R, r1, r2, ?_⟩
  have hR := root_len r1
  rw [← show a = dgs (nv a) from ha] at hR
  unfold natural_Root.f
  rw [Nt_good ha (by omega)]
  simp -implicitDefEqProofs only [if_true, show ¬ 64 < a.length by omega, if_false]
  rw [dgs_zero] at r3
  refine Ev.bind r3 ?_
  have hT := natural_times_ev (Nt_dgs R) (Nt_dgs R) (by omega)
  rw [nv_dgs] at hT
  refine Ev.bind hT ?_
  have hS := natural_sub_ev ha (Nt_dgs (R * R)) (by omega) (by rw [nv_dgs]; exact r1)
  rw [nv_dgs] at hS
  refine Ev.bind hS ?_
  exact Ev.now _
theorem natural_Root_no {a : List Int} (h : hk_good a = false) : Ev (fun k => natural_Root.f k a) ([], [], 10) := by
  unfold natural_Root.f
  rw [h]
  simp -implicitDefEqProofs only [Bool.false_eq_true, if_false]
  exact Ev.now _

theorem ref31_Less_ev {a b : List Int} (ha : Nt a) (hb : Nt b) (hl : a.length < 4294967296) : Ev (fun k => abacistref31_Less.f k a b) (decide (nv a < nv b)) := by
  unfold abacistref31_Less.f
  by_cases c : a.length = b.length
  · simp -implicitDefEqProofs only [show (a.length : Int) = (b.length : Int) by omega, if_true]
    rw [← c, len64 (show a.length < 9223372036854775807 by omega)]
    have key : ∀ i, i ≤ a.length → nv (a.drop i) = nv (b.drop i) → Ev (fun k => abacistref31_Less.l0 k a b ((i : Int) - 1)) (decide (nv a < nv b)) := by
      intro i
      induction i with
      | zero =>
        intro _ he
        refine Ev.step (fun k => abacistref31_Less.l0.eq_2 ..) ?_
        simp -implicitDefEqProofs only [show ¬ (((0 : Nat) : Int) - 1 ≥ 0) by omega, if_false]
        rw [List.drop_zero, List.drop_zero] at he
        rw [he, decide_eq_false (Nat.lt_irrefl _)]
        exact Ev.now _
      | succ i ih =>
        intro hi he
        refine Ev.step (fun k => abacistref31_Less.l0.eq_2 ..) ?_
        simp -implicitDefEqProofs only [down_at, show (i : Int) ≥ 0 by omega, if_true, show (0 : Int) ≤ (i : Int) by omega, show (i : Int) < (a.length : Int) by omega, show (i : Int) < (b.length : Int) by omega, rd_nat, down_next (show i < 9223372036854775807 by omega)]
        by_cases d : a.getD i 0 = b.getD i 0
        · simp -implicitDefEqProofs only [d, if_true]
          exact ih (by omega) (by rw [nv_drop_digit a i (by omega), nv_drop_digit b i (by omega), he, d])
        · simp -implicitDefEqProofs only [d, if_false]
          by_cases g : a.getD i 0 < b.getD i 0
          · rw [decide_eq_true g, decide_eq_true (nv_less_at ha.Dg hb.Dg (by omega) (by omega) he g)]
            exact Ev.now _
          · have := nv_less_at hb.Dg ha.Dg (i := i) (by omega) (by omega) he.symm (by omega)
            rw [decide_eq_false g, decide_eq_false (by omega)]
            exact Ev.now _
    exact key a.length (Nat.le_refl _) (by rw [List.drop_length, List.drop_of_length_le (by omega)])
  · simp -implicitDefEqProofs only [show ¬ (a.length : Int) = (b.length : Int) by omega, if_false]
    by_cases g : a.length < b.length
    · rw [decide_eq_true (show (a.length : Int) < (b.length : Int) by omega), decide_eq_true (nv_less_len ha hb g)]
      exact Ev.now _
    · have := nv_less_len hb ha (by omega)
      rw [decide_eq_false (show ¬ (a.length : Int) < (b.length : Int) by omega), decide_eq_false (by omega)]
      exact Ev.now _

end Go.Proofs.Ytaiahgnkgbfcfaa.BNaturalDivides
