/- What each function of the law TreeNodes answers, in the field's own words: plain contracts over the printed functions. -/
import Derived.Test.YtkgakohgbbapaaaPTreeNodesx0
import Derived.Test.YtkgakohgbbapaaaPTreeNodesx1
import Derived.Test.YtkgakohgbbapaaaPTreeNodesx2
import Derived.Test.YtkgakohgbbapaaaPTreeNodesx3
import Derived.Test.YtkgakohgbbapaaaPTreeNodesx4
import Derived.Test.YtkgakohgbbapaaaPTreeNodesx5
import Derived.Test.YtkgakohgbbapaaaPTreeNodesx6
import Derived.Test.YtkgakohgbbapaaaPTreeNodesx7
import Derived.Test.YtkgakohgbbapaaaPTreeNodesx8
import Derived.Test.YtkgakohgbbapaaaMTreeNodes
namespace Go.Proofs.Ytkgakohgbbapaaa.BTreeNodes
set_option linter.unusedVariables false
set_option linter.unusedSimpArgs false
open Go Go.RowKit Go.Proofs.Ytkgakohgbbapaaa.M Go.Proofs.Ytkgakohgbbapaaa.PTreeNodes Go.Proofs.YtkgakohgbbapaaaW.PrintWords Go.Proofs.YtkgakohgbbapaaaW.PrintLast Go.Proofs.YtkgakohgbbapaaaW.PrintMore
def U (a : Int) : Prop := 0 ≤ a ∧ a < 18446744073709551616
theorem U_un (x : F) : U (un x) := ⟨un_lo x, by have := un_hi x; omega⟩
theorem U_of_wf {a : Int} (h : (Lit.int .u64 a).wf = true) : U a := by
  simp [Lit.wf, IntKind.min, IntKind.max, IntKind.signed, IntKind.bits] at h
  exact ⟨by omega, by omega⟩
theorem wu64 (a : Int) : IntKind.u64.wrap a = a % 18446744073709551616 := by simp [IntKind.wrap, IntKind.bits, IntKind.signed]
theorem wu64_of {a : Int} (h : U a) : IntKind.u64.wrap a = a := by rw [wu64]; have := h.1; have := h.2; omega
theorem U_wrap (a : Int) : U (IntKind.u64.wrap a) := by rw [wu64]; exact ⟨by omega, by omega⟩
theorem and_low {a : Int} (h : U a) : Go.bits .and .u64 a 4294967295 = a % 4294967296 := by
  have := bits_mask .u64 64 (by decide) (fun n h0 h1 => by rw [wu64]; omega) 32 (by decide) a h.1 (by have := h.2; omega)
  simpa using this
theorem and_one {a : Int} (h : U a) : Go.bits .and .u64 a 1 = a % 2 := by
  have := bits_mask .u64 64 (by decide) (fun n h0 h1 => by rw [wu64]; omega) 1 (by decide) a h.1 (by have := h.2; omega)
  simpa using this
theorem wrap64_of {a : Int} (h0 : -9223372036854775808 ≤ a) (h1 : a < 9223372036854775808) : wrap64 a = a := by unfold wrap64; omega
/-- Rows of words. -/
def UL (l : List Int) : Prop := ∀ x ∈ l, U x
theorem UL_of_wf {l : List Int} (h : ∀ x ∈ l, (Lit.int .u64 x).wf = true) : UL l := fun x hx => U_of_wf (h x hx)
theorem U_zero : U 0 := ⟨by omega, by omega⟩
theorem U_one : U 1 := ⟨by omega, by omega⟩
theorem U_getD {l : List Int} (h : UL l) (i : Nat) : U (l.getD i 0) := by
  rw [List.getD_eq_getElem?_getD]
  by_cases hi : i < l.length
  · rw [List.getElem?_eq_getElem hi]; exact h _ (List.getElem_mem hi)
  · rw [List.getElem?_eq_none (by omega)]; exact U_zero
theorem U_rd {l : List Int} (h : UL l) (i : Int) : U (rd l i) := U_getD h _
theorem UL_tab (m : Nat) (f : Nat → F) : UL (tab m f) := by
  intro x hx
  unfold tab at hx
  obtain ⟨j, _, rfl⟩ := List.mem_map.1 hx
  exact U_un _
theorem UL_nil : UL [] := fun x hx => by cases hx
theorem rd_nat (l : List Int) (i : Nat) : rd l (i : Int) = l.getD i 0 := by unfold rd; rw [Int.toNat_natCast]
theorem cv_rd (l : List Int) (i : Nat) : cv (rd l (i : Int)) = co l i := by rw [rd_nat]; rfl
theorem rd_tab {m : Nat} {f : Nat → F} {i : Nat} (h : i < m) : rd (tab m f) (i : Int) = un (f i) := by rw [rd_nat, tab_getD m f i h]
theorem nat64_succ {i : Nat} (h : i < 9223372036854775807) : wrap64 ((i : Int) + 1) = ((i + 1 : Nat) : Int) := by unfold wrap64; omega
/-- A loop that counts up. -/
theorem Ev_loop {α : Type} {r : α} (n : Nat) (g : Nat → Nat → Option α) (last : Ev (fun k => g k n) r) (step : ∀ i, i < n → Ev (fun k => g k (i + 1)) r → Ev (fun k => g k i) r) (i : Nat) (hi : i ≤ n) : Ev (fun k => g k i) r := by
  have key : ∀ d i, i + d = n → Ev (fun k => g k i) r := by
    intro d
    induction d with
    | zero => intro i hi; obtain rfl : i = n := by omega
              exact last
    | succ d ih => intro i hi; exact step i (by omega) (ih (i + 1) (by omega))
  exact key (n - i) i (by omega)
theorem down_at (i : Nat) : (((i + 1 : Nat) : Int) - 1) = (i : Int) := by omega
theorem down_next {i : Nat} (h : i < 9223372036854775807) : wrap64 ((i : Int) - 1) = (i : Int) - 1 := by unfold wrap64; omega
theorem U_nat {n : Nat} (h : n < 18446744073709551616) : U (n : Int) := ⟨Int.natCast_nonneg _, by omega⟩
theorem two_pow_lt {n m : Nat} (h : n ≤ m) : 2 ^ n ≤ 2 ^ m := Nat.pow_le_pow_right (by omega) h
theorem U_two_pow {n : Nat} (h : n ≤ 63) : U ((2 ^ n : Nat) : Int) := U_nat (by have := two_pow_lt h; omega)
theorem i64wrap (a : Int) : IntKind.i64.wrap a = wrap64 a := by rw [IntKind.wrap_i64]; unfold wrap64; rfl
theorem int_two_pow (n : Nat) : ((2 : Int) ^ n) = ((2 ^ n : Nat) : Int) := by simp
theorem shl_i64 {n : Nat} (h : n ≤ 62) : shl .i64 1 (IntKind.u64.wrap (n : Int)) = ((2 ^ n : Nat) : Int) := by
  have hu : IntKind.u64.wrap (n : Int) = (n : Int) := wu64_of ⟨by omega, by omega⟩
  unfold shl
  rw [hu, Int.toNat_natCast, Nat.min_eq_left (by rw [show IntKind.i64.bits = 64 from rfl]; omega), i64wrap, Int.one_mul, int_two_pow]
  have := two_pow_lt (n := n) (m := 62) h
  generalize 2 ^ n = q at *
  rw [wrap64_of (by omega) (by omega)]
theorem shl_u64 {n : Nat} (h : n ≤ 63) : shl .u64 1 (IntKind.u64.wrap (n : Int)) = ((2 ^ n : Nat) : Int) := by
  have hu : IntKind.u64.wrap (n : Int) = (n : Int) := wu64_of ⟨by omega, by omega⟩
  unfold shl
  rw [hu, Int.toNat_natCast, Nat.min_eq_left (by rw [show IntKind.u64.bits = 64 from rfl]; omega), Int.one_mul, int_two_pow]
  have := two_pow_lt (n := n) (m := 63) h
  generalize 2 ^ n = q at *
  exact wu64_of ⟨by omega, by omega⟩
theorem getD_take {l : List Int} {d i : Nat} (h : i < d) : (l.take d).getD i 0 = l.getD i 0 := by
  rw [List.getD_eq_getElem?_getD, List.getD_eq_getElem?_getD, List.getElem?_take, if_pos h]
theorem UL_take {l : List Int} (h : UL l) (d : Nat) : UL (l.take d) := fun x hx => h x (List.mem_of_mem_take hx)
theorem co_take {l : List Int} {d i : Nat} (h : i < d) : co (l.take d) i = co l i := by unfold co; rw [getD_take h]
theorem UL_tr (m : Nat) (f : Nat → F) : UL (tr m f) := UL_tab _ _
theorem add64 {a b : Nat} (h : a + b < 9223372036854775808) : wrap64 ((a : Int) + (b : Int)) = ((a + b : Nat) : Int) := by unfold wrap64; omega
theorem sub64 {a b : Nat} (h : b ≤ a) (h2 : a < 9223372036854775808) : wrap64 ((a : Int) - (b : Int)) = ((a - b : Nat) : Int) := by unfold wrap64; omega
theorem UL_cons {a : Int} {l : List Int} (h : U a) (hl : UL l) : UL (a :: l) := by
  intro x hx
  rcases List.mem_cons.1 hx with rfl | hx
  · exact h
  · exact hl x hx
theorem gold_Of_eq {a : Int} (h : U a) : gold_Of.f a = some (un (cv a)) := by
  unfold gold_Of.f
  rw [un_cv]
  have := h.1; have := h.2
  by_cases c : a ≥ 18446744069414584321
  · rw [if_pos c, wu64]; congr 1; omega
  · rw [if_neg c]; congr 1; omega

theorem gold_Neg_eq {a : Int} (h : U a) : gold_Neg.f a = some (un (- cv a)) := by
  unfold gold_Neg.f
  rw [gold_Of_eq h]
  simp only [Option.bind_some, un_neg, un_cv]
  by_cases c : a % 18446744069414584321 = 0
  · rw [if_pos c, c]; rfl
  · rw [if_neg c, wu64]; congr 1; omega

theorem poly_Degree_l0 {l : List Int} (h : UL l) (hl : l.length < 4294967296) : ∀ i, i ≤ l.length → Ev (fun k => poly_Degree.l0 k l ((i : Int) - 1)) ((dg i (co l) : Int) - 1) := by
  intro i
  induction i with
  | zero =>
    intro _
    refine Ev.step (fun k => poly_Degree.l0.eq_2 ..) ?_
    simp -implicitDefEqProofs only [show ¬ (((0 : Nat) : Int) - 1 ≥ 0) by omega, if_false]
    exact Ev.now _
  | succ i ih =>
    intro hi
    refine Ev.step (fun k => poly_Degree.l0.eq_2 ..) ?_
    have c1 : (i : Int) ≥ 0 := by omega
    have c2 : (i : Int) < (l.length : Int) := by omega
    rw [show dg (i + 1) (co l) = if co l i = 0 then dg i (co l) else i + 1 from rfl]
    simp -implicitDefEqProofs only [down_at, c1, c2, if_true, gold_Of_eq (U_rd h _), Option.bind_some, cv_rd, down_next (show i < 9223372036854775807 by omega)]
    by_cases c : co l i = 0
    · rw [if_pos c, c, un_zero]
      simp -implicitDefEqProofs only [if_true]
      exact ih (by omega)
    · have c' : ¬ un (co l i) = 0 := fun h => c (un_eq_zero.1 h)
      rw [if_neg c, down_at]
      simp -implicitDefEqProofs only [c', if_false]
      exact Ev.now _
theorem poly_Degree_ev {l : List Int} (h : UL l) (hl : l.length < 4294967296) : Ev (fun k => poly_Degree.f k l) ((dg l.length (co l) : Int) - 1) := by
  unfold poly_Degree.f
  rw [down_next (show l.length < 9223372036854775807 by omega)]
  exact poly_Degree_l0 h hl _ (Nat.le_refl _)

theorem poly_Trim_ev {l : List Int} (h : UL l) (hl : l.length < 4294967296) : Ev (fun k => poly_Trim.f k l) (tr l.length (co l)) := by
  unfold poly_Trim.f
  refine Ev.bind (poly_Degree_ev h hl) ?_
  have hd := dg_le l.length (co l)
  have e : wrap64 ((dg l.length (co l) : Int) - 1 + 1) = (dg l.length (co l) : Int) := by rw [wrap64_of (by omega) (by omega)]; omega
  have c1 : (0 : Int) ≤ (dg l.length (co l) : Int) := by omega
  have c2 : (dg l.length (co l) : Int) ≤ (l.length : Int) := by omega
  unfold tr
  generalize dg l.length (co l) = d at *
  have hlen : (l.take d).length = d := by rw [List.length_take]; omega
  simp -implicitDefEqProofs only [e, c1, c2, if_true, Int.toNat_natCast, hlen]
  refine Ev_loop d (fun k i => poly_Trim.l0 k (tab i (co l)) (l.take d) (d : Int) (i : Int)) ?_ (fun i hi ih => ?_) 0 (Nat.zero_le _)
  · refine Ev.step (fun k => poly_Trim.l0.eq_2 ..) ?_
    simp -implicitDefEqProofs only [Int.lt_irrefl, if_false]
    exact Ev.now _
  · refine Ev.step (fun k => poly_Trim.l0.eq_2 ..) ?_
    have c3 : (i : Int) < (d : Int) := by omega
    have c4 : (0 : Int) ≤ (i : Int) := by omega
    have c5 : i < 17592186044416 := by omega
    simp -implicitDefEqProofs only [c3, c4, c5, hlen, tab_length, if_true, gold_Of_eq (U_rd (UL_take h d) _), Option.bind_some, cv_rd, co_take hi, ← tab_succ, nat64_succ (show i < 9223372036854775807 by omega)]
    exact ih

theorem conv_exponent_from {n : Nat} (hn : n ≤ 524288) : ∀ d j : Nat, j + d = 19 → ∃ e : Nat, e ≤ 19 ∧ n ≤ 2 ^ e ∧ Ev (fun k => conv_exponent.l0 k (n : Int) (j : Int)) (e : Int)
  | d, j, h => by
    have hu : IntKind.u64.wrap (j : Int) = (j : Int) := wu64_of ⟨by omega, by omega⟩
    have hs := shl_i64 (n := j) (by omega)
    have hp := two_pow_lt (n := j) (m := 19) (by omega)
    by_cases c : 2 ^ j < n
    · cases d with
      | zero =>
        obtain rfl : j = 19 := by omega
        omega
      | succ d =>
        obtain ⟨e, h1, h2, h3⟩ := conv_exponent_from hn d (j + 1) (by omega)
        refine ⟨e, h1, h2, ?_⟩
        refine Ev.step (fun k => conv_exponent.l0.eq_2 ..) ?_
        have c2 : ((2 ^ j : Nat) : Int) < (n : Int) := Int.ofNat_lt.2 c
        rw [hs, hu]
        simp -implicitDefEqProofs only [show (0 : Int) ≤ (j : Int) by omega, c2, if_true, nat64_succ (show j < 9223372036854775807 by omega)]
        exact h3
    · refine ⟨j, by omega, by omega, ?_⟩
      refine Ev.step (fun k => conv_exponent.l0.eq_2 ..) ?_
      have c2 : ¬ ((2 ^ j : Nat) : Int) < (n : Int) := fun h => c (Int.ofNat_lt.1 h)
      rw [hs, hu]
      simp -implicitDefEqProofs only [show (0 : Int) ≤ (j : Int) by omega, c2, if_true, if_false]
      exact Ev.now _
theorem conv_exponent_ev {n : Nat} (hn : n ≤ 524288) : ∃ e : Nat, e ≤ 19 ∧ n ≤ 2 ^ e ∧ Ev (fun k => conv_exponent.f k (n : Int)) (e : Int) := conv_exponent_from hn 19 0 (by omega)

theorem gold_Reduce_eq {hi lo : Int} (h : U hi) (h2 : U lo) : gold_Reduce.f hi lo = some (un (cv (hi * 18446744073709551616 + lo))) := by
  have e0 := h.1; have e1 := h.2; have e2 := h2.1; have e3 := h2.2
  unfold gold_Reduce.f
  rw [and_low h]
  simp only [wu64]
  have top : hi = 4294967296 * (hi / 4294967296) + hi % 4294967296 := by omega
  generalize hi / 4294967296 = t at *
  generalize hm : hi % 4294967296 = m at *
  have hm0 : 0 ≤ m := by omega
  have hm1 : m < 4294967296 := by omega
  have ht0 : 0 ≤ t := by omega
  have ht1 : t < 4294967296 := by omega
  have e : m * 4294967295 % 18446744073709551616 = m * 4294967295 := by omega
  rw [e]
  by_cases c1 : lo < t
  · rw [if_pos c1]
    have a1 : (lo - t) % 18446744073709551616 = lo - t + 18446744073709551616 := by omega
    rw [a1]
    have a2 : (lo - t + 18446744073709551616 - 4294967295) % 18446744073709551616 = lo - t + 18446744073709551616 - 4294967295 := by omega
    rw [a2]
    by_cases c2 : (lo - t + 18446744073709551616 - 4294967295 + m * 4294967295) % 18446744073709551616 < m * 4294967295
    · have c3 : (lo - t + 18446744073709551616 - 4294967295 + m * 4294967295) % 18446744073709551616 = lo - t - 4294967295 + m * 4294967295 := by omega
      have c4 : (lo - t - 4294967295 + m * 4294967295 + 4294967295) % 18446744073709551616 = lo - t + m * 4294967295 := by omega
      rw [if_pos c2, c3, c4, gold_Of_eq ⟨by omega, by omega⟩]
      simp only [Option.bind_some, Option.some.injEq, un_inj_iff]
      exact cv_of_eq (-(t * 4294967297 + m)) (by omega)
    · have c3 : (lo - t + 18446744073709551616 - 4294967295 + m * 4294967295) % 18446744073709551616 = lo - t + 18446744073709551616 - 4294967295 + m * 4294967295 := by omega
      rw [if_neg c2, c3, gold_Of_eq ⟨by omega, by omega⟩]
      simp only [Option.bind_some, Option.some.injEq, un_inj_iff]
      exact cv_of_eq (-(t * 4294967297 + m) + 1) (by omega)
  · rw [if_neg c1]
    have a1 : (lo - t) % 18446744073709551616 = lo - t := by omega
    rw [a1]
    by_cases c2 : (lo - t + m * 4294967295) % 18446744073709551616 < m * 4294967295
    · have c3 : (lo - t + m * 4294967295) % 18446744073709551616 = lo - t + m * 4294967295 - 18446744073709551616 := by omega
      have c4 : (lo - t + m * 4294967295 - 18446744073709551616 + 4294967295) % 18446744073709551616 = lo - t + m * 4294967295 - 18446744069414584321 := by omega
      rw [if_pos c2, c3, c4, gold_Of_eq ⟨by omega, by omega⟩]
      simp only [Option.bind_some, Option.some.injEq, un_inj_iff]
      exact cv_of_eq (-(t * 4294967297 + m) - 1) (by omega)
    · have c3 : (lo - t + m * 4294967295) % 18446744073709551616 = lo - t + m * 4294967295 := by omega
      rw [if_neg c2, c3, gold_Of_eq ⟨by omega, by omega⟩]
      simp only [Option.bind_some, Option.some.injEq, un_inj_iff]
      exact cv_of_eq (-(t * 4294967297 + m)) (by omega)

theorem mul64_arith (a b : Int) (ha : U a) (hb : U b) :
    IntKind.u64.wrap ((IntKind.u64.wrap ((IntKind.u64.wrap ((a / 4294967296) * (b / 4294967296))) + ((IntKind.u64.wrap ((IntKind.u64.wrap ((a / 4294967296) * (b % 4294967296))) + ((IntKind.u64.wrap ((a % 4294967296) * (b % 4294967296))) / 4294967296))) / 4294967296))) + ((IntKind.u64.wrap ((Go.bits .and .u64 (IntKind.u64.wrap ((IntKind.u64.wrap ((a / 4294967296) * (b % 4294967296))) + ((IntKind.u64.wrap ((a % 4294967296) * (b % 4294967296))) / 4294967296))) 4294967295) + (IntKind.u64.wrap ((a % 4294967296) * (b / 4294967296))))) / 4294967296)) = a * b / 18446744073709551616 := by
  rw [and_low (U_wrap _)]
  simp only [wu64]
  have a0 := ha.1; have a1 := ha.2; have b0 := hb.1; have b1 := hb.2
  have ea : a = 4294967296 * (a / 4294967296) + a % 4294967296 := by omega
  have eb : b = 4294967296 * (b / 4294967296) + b % 4294967296 := by omega
  have x0 : 0 ≤ a / 4294967296 := by omega
  have x1 : a / 4294967296 ≤ 4294967295 := by omega
  have y0 : 0 ≤ b / 4294967296 := by omega
  have y1 : b / 4294967296 ≤ 4294967295 := by omega
  have u0 : 0 ≤ a % 4294967296 := by omega
  have u1 : a % 4294967296 ≤ 4294967295 := by omega
  have v0 : 0 ≤ b % 4294967296 := by omega
  have v1 : b % 4294967296 ≤ 4294967295 := by omega
  generalize a / 4294967296 = x at *
  generalize b / 4294967296 = y at *
  generalize a % 4294967296 = u at *
  generalize b % 4294967296 = v at *
  have key : ∀ p q : Int, 0 ≤ p → p ≤ 4294967295 → 0 ≤ q → q ≤ 4294967295 → 0 ≤ p * q ∧ p * q ≤ 18446744065119617025 := by
    intro p q p0 p1 q0 q1
    refine ⟨Int.mul_nonneg p0 q0, ?_⟩
    have := Int.mul_le_mul p1 q1 q0 (by omega)
    omega
  have hxy := key x y x0 x1 y0 y1
  have hxv := key x v x0 x1 v0 v1
  have huv := key u v u0 u1 v0 v1
  have huy := key u y u0 u1 y0 y1
  have eab : a * b = 18446744073709551616 * (x * y) + 4294967296 * (x * v) + 4294967296 * (u * y) + u * v := by
    rw [ea, eb]; grind
  rw [eab]
  generalize x * y = xy at *
  generalize x * v = xv at *
  generalize u * v = uv at *
  generalize u * y = uy at *
  clear ea eb eab key
  rw [Int.emod_eq_of_lt hxy.1 (by omega), Int.emod_eq_of_lt hxv.1 (by omega), Int.emod_eq_of_lt huv.1 (by omega), Int.emod_eq_of_lt huy.1 (by omega)]
  rw [Int.emod_eq_of_lt (a := xv + uv / 4294967296) (by omega) (by omega)]
  omega
theorem bits_Mul64_eq {a b : Int} (ha : U a) (hb : U b) : bits_Mul64.f a b = some (a * b / 18446744073709551616, a * b % 18446744073709551616) := by
  unfold bits_Mul64.f
  rw [and_low ha, and_low hb, mul64_arith a b ha hb, wu64]

theorem wide_Mul_eq {a b : Int} (ha : U a) (hb : U b) : wide_Mul.f a b = some (a * b / 18446744073709551616, a * b % 18446744073709551616) := by
  unfold wide_Mul.f
  rw [bits_Mul64_eq ha hb]; rfl
theorem U_wide {a b : Int} (ha : U a) (hb : U b) : U (a * b / 18446744073709551616) ∧ U (a * b % 18446744073709551616) := by
  have h0 := Int.mul_nonneg ha.1 hb.1
  have h1 : a * b ≤ 18446744073709551615 * 18446744073709551615 := Int.mul_le_mul (by have := ha.2; omega) (by have := hb.2; omega) hb.1 (by omega)
  generalize a * b = c at *
  exact ⟨⟨by omega, by omega⟩, ⟨by omega, by omega⟩⟩

theorem gold_Mul_eq {a b : Int} (ha : U a) (hb : U b) : gold_Mul.f a b = some (un (cv a * cv b)) := by
  unfold gold_Mul.f
  rw [wide_Mul_eq ha hb]
  simp only [Option.bind_some]
  rw [gold_Reduce_eq (U_wide ha hb).1 (U_wide ha hb).2]
  simp only [Option.bind_some, ← cv_mul]
  congr 3
  omega

theorem twid_Scale_ev {l : List Int} (h : UL l) (hl : l.length < 4294967296) {a : Int} (ha : U a) : Ev (fun k => twid_Scale.f k l a) (tab l.length (fun i => co l i * cv a)) := by
  unfold twid_Scale.f
  have d1 : (0 : Int) ≤ (l.length : Int) := by omega
  have d2 : l.length ≤ 35184372088832 := by omega
  simp -implicitDefEqProofs only [d1, d2, if_true, Int.toNat_natCast, replicate_tab]
  have e0 : tab l.length (fun _ => (0 : F)) = tab l.length (fun j => if j < 0 then co l j * cv a else 0) := tab_congr (fun j hj => by rw [if_neg (by omega)])
  rw [e0]
  refine Ev_loop l.length (fun k i => twid_Scale.l0 k a (tab l.length (fun j => if j < i then co l j * cv a else 0)) l (l.length : Int) (i : Int)) ?_ (fun i hi ih => ?_) 0 (Nat.zero_le _)
  · refine Ev.step (fun k => twid_Scale.l0.eq_2 ..) ?_
    simp -implicitDefEqProofs only [Int.lt_irrefl, if_false]
    rw [tab_congr (g := fun i => co l i * cv a) (fun i hi => by rw [if_pos hi])]
    exact Ev.now _
  · refine Ev.step (fun k => twid_Scale.l0.eq_2 ..) ?_
    have c1 : (i : Int) < (l.length : Int) := by omega
    have c2 : (0 : Int) ≤ (i : Int) := by omega
    simp -implicitDefEqProofs only [c1, c2, tab_length, if_true, gold_Mul_eq (U_rd h _) ha, Option.bind_some, cv_rd, Int.toNat_natCast, tab_set, nat64_succ (show i < 9223372036854775807 by omega)]
    have e : tab l.length (fun j => if j = i then co l i * cv a else if j < i then co l j * cv a else 0) = tab l.length (fun j => if j < i + 1 then co l j * cv a else 0) := by
      apply tab_congr
      intro j hj
      by_cases hji : j = i
      · subst hji; rw [if_pos rfl, if_pos (by omega)]
      · rw [if_neg hji]
        by_cases hh : j < i
        · rw [if_pos hh, if_pos (by omega)]
        · rw [if_neg hh, if_neg (by omega)]
    rw [e]
    exact ih

theorem bits_Add64_eq {a b c : Int} (ha : 0 ≤ a) (hb : 0 ≤ b) (h0 : 0 ≤ c) (h1 : c ≤ 1) : bits_Add64.f a b c = some ((a + b + c) % 18446744073709551616, (a + b + c) / 18446744073709551616) := by
  unfold bits_Add64.f
  rw [if_pos ha, if_pos hb, if_pos h0, if_pos h1]

theorem wide_Add_eq {a b c d : Int} (ha : U a) (hb : U b) (hc : U c) (hd : U d) :
    wide_Add.f a b c d = some ((a * 18446744073709551616 + b + (c * 18446744073709551616 + d)) / 18446744073709551616 % 18446744073709551616, (a * 18446744073709551616 + b + (c * 18446744073709551616 + d)) % 18446744073709551616, (a * 18446744073709551616 + b + (c * 18446744073709551616 + d)) / 340282366920938463463374607431768211456) := by
  have := ha.1; have := ha.2; have := hb.1; have := hb.2; have := hc.1; have := hc.2; have := hd.1; have := hd.2
  unfold wide_Add.f
  rw [bits_Add64_eq hb.1 hd.1 (by omega) (by omega)]
  simp only [Option.bind_some]
  rw [bits_Add64_eq ha.1 hc.1 (by omega) (by omega)]
  simp only [Option.bind_some, Option.some.injEq, Prod.mk.injEq]
  exact ⟨by omega, by omega, by omega⟩

theorem gold_Add_eq {a b : Int} (ha : U a) (hb : U b) : gold_Add.f a b = some (un (cv a + cv b)) := by
  unfold gold_Add.f
  rw [gold_Of_eq ha, gold_Of_eq hb]
  simp only [Option.bind_some]
  rw [wide_Add_eq ⟨by omega, by omega⟩ (U_un _) ⟨by omega, by omega⟩ (U_un _)]
  simp only [Option.bind_some]
  have h0 := un_lo (cv a); have h1 := un_hi (cv a); have h2 := un_lo (cv b); have h3 := un_hi (cv b)
  rw [gold_Reduce_eq ⟨by omega, by omega⟩ ⟨by omega, by omega⟩]
  simp only [Option.bind_some]
  have e : cv a + cv b = cv (un (cv a) + un (cv b)) := by rw [cv_add, cv_un, cv_un]
  rw [e]
  congr 2
  exact cv_of_eq 0 (by omega)

theorem gold_Sub_eq {a b : Int} (ha : U a) (hb : U b) : gold_Sub.f a b = some (un (cv a - cv b)) := by
  unfold gold_Sub.f
  rw [gold_Neg_eq hb]
  simp only [Option.bind_some]
  rw [gold_Add_eq ha (U_un _)]
  simp only [Option.bind_some, cv_un]
  congr 2; grind

theorem hk_crossO_eq {a b c d u : Int} (ha : U a) (hb : U b) (hc : U c) (hd : U d) (hu : U u) :
    hk_crossO a b c d u = some (un ((cv a + cv c) + (cv b + cv d)), un ((cv a - cv c) + cv u * (cv b - cv d)), un ((cv a + cv c) - (cv b + cv d)), un ((cv a - cv c) - cv u * (cv b - cv d))) := by
  unfold hk_crossO
  rw [gold_Add_eq ha hc, Option.bind_some, gold_Sub_eq ha hc, Option.bind_some, gold_Add_eq hb hd, Option.bind_some, gold_Sub_eq hb hd, Option.bind_some, gold_Mul_eq hu (U_un _), Option.bind_some, gold_Add_eq (U_un _) (U_un _), Option.bind_some, gold_Add_eq (U_un _) (U_un _), Option.bind_some, gold_Sub_eq (U_un _) (U_un _), Option.bind_some, gold_Sub_eq (U_un _) (U_un _), Option.bind_some]
  simp -implicitDefEqProofs only [cv_un]

/-- One crossing: what stands behind it. -/
theorem hk_qstep_eq {N n s i q : Nat} (hN : N = n * s) (h4 : n = 4 * (n / 4)) (hi : i < n / 4) (hq : q < s) {W u : F} (hu : u * u = -1) (pf : Nat → F) (pn : Nat) (hpn : N ≤ pn) (hpf : ∀ j, pf (j * s) = W ^ j) (x g0 : Nat → F) :
    hk_qstep (tab pn pf) (tab N x) (un u) n s s i q (tab N (q4 s (qx s (n / 4) W u x) g0 i q)) = some (tab N (q4 s (qx s (n / 4) W u x) g0 i (q + 1))) := by
  obtain ⟨h, hh⟩ : ∃ h, h = n / 4 := ⟨_, rfl⟩
  rw [← hh] at h4 hi ⊢
  have hs : 0 < s := by omega
  have lt : ∀ c, c < 4 → q + s * (i + c * h) < N := fun c hc => by
    have h1 : i + c * h + 1 ≤ 4 * h := by
      have : c * h ≤ 3 * h := Nat.mul_le_mul_right h (by omega)
      omega
    have h2 : s * (i + c * h + 1) ≤ s * (4 * h) := Nat.mul_le_mul_left s h1
    rw [hN, h4, Nat.mul_comm (4 * h) s]
    rw [Nat.mul_add s, Nat.mul_one] at h2
    omega
  have lp : ∀ c, c < 4 → c * i * s < pn := fun c hc => by
    have h1 : c * i ≤ 3 * i := Nat.mul_le_mul_right i (by omega)
    have h2 : c * i * s < 4 * h * s := Nat.mul_lt_mul_of_pos_right (by omega) hs
    rw [hN, h4] at hpn
    omega
  have cr := hk_crossO_eq (U_un (x (q + s * (i + 0 * h)))) (U_un (x (q + s * (i + 1 * h)))) (U_un (x (q + s * (i + 2 * h)))) (U_un (x (q + s * (i + 3 * h)))) (U_un u)
  simp -implicitDefEqProofs only [cv_un] at cr
  obtain ⟨z0, z1, z2, z3⟩ := q_cross (x (q + s * (i + 0 * h))) (x (q + s * (i + 1 * h))) (x (q + s * (i + 2 * h))) (x (q + s * (i + 3 * h))) u hu
  rw [z0, z1, z2, z3] at cr
  have tt : ∀ t, t < 4 → qx s h W u x (q + s * 4 * i + t * s) = (x (q + s * (i + 0 * h)) + x (q + s * (i + 1 * h)) * u ^ (1 * t) + x (q + s * (i + 2 * h)) * u ^ (2 * t) + x (q + s * (i + 3 * h)) * u ^ (3 * t)) * W ^ (t * i) := fun t ht => by
    rw [qx_at h W u x hq ht, Nat.zero_mul, Nat.one_mul h, Nat.add_zero]
  have m1 := tt 1 (by omega)
  have m2 := tt 2 (by omega)
  have m3 := tt 3 (by omega)
  have m0 := tt 0 (by omega)
  rw [show q + s * 4 * i + 0 * s = q + s * 4 * i by omega, Nat.zero_mul i, k1 W, k2] at m0
  rw [Nat.one_mul s] at m1
  have w1 : rd (tab pn pf) ((i * s : Nat) : Int) = un (W ^ (1 * i)) := by
    have := lp 1 (by omega)
    rw [Nat.one_mul] at this ⊢
    rw [rd_tab this, hpf]
  have w2 : rd (tab pn pf) ((2 * i * s : Nat) : Int) = un (W ^ (2 * i)) := by rw [rd_tab (lp 2 (by omega)), hpf]
  have w3 : rd (tab pn pf) ((3 * i * s : Nat) : Int) = un (W ^ (3 * i)) := by rw [rd_tab (lp 3 (by omega)), hpf]
  unfold hk_qstep
  rw [← hh, rd_tab (lt 0 (by omega)), rd_tab (lt 1 (by omega)), rd_tab (lt 2 (by omega)), rd_tab (lt 3 (by omega)), cr, w1, w2, w3, Option.bind_some]
  simp -implicitDefEqProofs only []
  rw [gold_Mul_eq (U_un _) (U_un _), Option.bind_some, gold_Mul_eq (U_un _) (U_un _), Option.bind_some, gold_Mul_eq (U_un _) (U_un _), Option.bind_some]
  simp -implicitDefEqProofs only [cv_un]
  rw [← m0, ← m1, ← m2, ← m3]
  congr 1
  exact q4_step hq (qx s h W u x) g0
where
  k1 {R : Nat} [NeZero R] (W : Fin R) : W ^ 0 = 1 := by grind
  k2 {R : Nat} [NeZero R] (a : Fin R) : a * 1 = a := by grind
theorem hk_qin_eq {N n s i : Nat} (hN : N = n * s) (h4 : n = 4 * (n / 4)) (hi : i < n / 4) {W u : F} (hu : u * u = -1) (pf : Nat → F) (pn : Nat) (hpn : N ≤ pn) (hpf : ∀ j, pf (j * s) = W ^ j) (x g0 : Nat → F) :
    ∀ q, q ≤ s → hk_qin (tab pn pf) (tab N x) (un u) n s s i (tab N (q4 s (qx s (n / 4) W u x) g0 i 0)) q = some (tab N (q4 s (qx s (n / 4) W u x) g0 i q))
  | 0, _ => rfl
  | q + 1, hq => by
    unfold hk_qin
    rw [hk_qin_eq hN h4 hi hu pf pn hpn hpf x g0 q (by omega), Option.bind_some]
    exact hk_qstep_eq hN h4 hi (by omega) hu pf pn hpn hpf x g0
theorem hk_qout_at {N n s : Nat} (hN : N = n * s) (hs : 0 < s) (h4 : n = 4 * (n / 4)) {W u : F} (hu : u * u = -1) (pf : Nat → F) (pn : Nat) (hpn : N ≤ pn) (hpf : ∀ j, pf (j * s) = W ^ j) (x g0 : Nat → F) :
    ∀ i, i ≤ n / 4 → hk_qout (tab pn pf) (tab N x) (un u) n s s (tab N g0) i = some (tab N (q4 s (qx s (n / 4) W u x) g0 i 0))
  | 0, _ => by
    unfold hk_qout
    exact congrArg some (tab_congr (fun p _ => (q4_zero s _ g0 p).symm))
  | i + 1, hi => by
    unfold hk_qout
    rw [hk_qout_at hN hs h4 hu pf pn hpn hpf x g0 i (by omega), Option.bind_some, hk_qin_eq hN h4 (by omega) hu pf pn hpn hpf x g0 s (Nat.le_refl _)]
    exact congrArg some (tab_congr (fun p _ => q4_next hs _ g0 i p))
theorem hk_qout_eq {N n s : Nat} (hN : N = n * s) (hs : 0 < s) (h4 : n = 4 * (n / 4)) {W u : F} (hu : u * u = -1) (pf : Nat → F) (pn : Nat) (hpn : N ≤ pn) (hpf : ∀ j, pf (j * s) = W ^ j) (x g0 : Nat → F) :
    hk_qout (tab pn pf) (tab N x) (un u) n s s (tab N g0) (n / 4) = some (tab N (qx s (n / 4) W u x)) := by
  rw [hk_qout_at hN hs h4 hu pf pn hpn hpf x g0 (n / 4) (Nat.le_refl _)]
  exact congrArg some (tab_congr (fun p hp => q4_end hs _ g0 (by rw [← h4, ← hN]; exact hp)))

/-- A last pass's target while the pass is at place q. -/
def h4v (s : Nat) (x g0 : Nat → F) (q p : Nat) : F := if p < q then x p + x (p + s) else if s ≤ p ∧ p < s + q then x (p - s) - x p else g0 p
theorem hk_hin_eq (s : Nat) (x g0 : Nat → F) : ∀ q, q ≤ s → hk_hin (tab (2 * s) x) s (tab (2 * s) g0) q = some (tab (2 * s) (h4v s x g0 q))
  | 0, _ => by
    unfold hk_hin
    refine congrArg some (tab_congr (fun p _ => ?_))
    unfold h4v
    rw [if_neg (by omega), if_neg (by omega)]
  | q + 1, hq => by
    unfold hk_hin
    rw [hk_hin_eq s x g0 q (by omega), Option.bind_some]
    unfold hk_hstep
    rw [rd_tab (show q < 2 * s by omega), rd_tab (show q + s < 2 * s by omega), gold_Add_eq (U_un _) (U_un _), Option.bind_some, gold_Sub_eq (U_un _) (U_un _), Option.bind_some, cv_un, cv_un, tab_set, tab_set]
    refine congrArg some (tab_congr (fun p _ => ?_))
    unfold h4v
    by_cases c1 : p = q + s
    · rw [if_pos c1, if_neg (by omega), if_pos (by omega), c1, Nat.add_sub_cancel]
    · rw [if_neg c1]
      by_cases c2 : p = q
      · rw [if_pos c2, if_pos (by omega), c2]
      · rw [if_neg c2]
        by_cases c3 : p < q
        · rw [if_pos c3, if_pos (by omega)]
        · rw [if_neg c3, if_neg (show ¬ p < q + 1 by omega)]
          by_cases c4 : s ≤ p ∧ p < s + q
          · rw [if_pos c4, if_pos (by omega)]
          · rw [if_neg c4, if_neg (by omega)]

theorem hk_k4s_eq {k : Nat} (hk : k ≤ 20) {d : Int} (hd : d = 0 ∨ d = 1) (x : Nat → F) : ∀ j, 2 * j ≤ k → ∃ g0 : Nat → F,
    hk_k4s (tab (2 ^ k) (fun i => dr k d ^ i)) (un (dr 2 d)) k (tab (2 ^ k) x) j = some (tab (2 ^ k) (qv k (dr k d) (dr 2 d) x j), tab (2 ^ k) g0)
  | 0, _ => ⟨fun _ => 0, by unfold hk_k4s; rw [tab_length, replicate_tab]; rfl⟩
  | j + 1, hj => by
    obtain ⟨g0, e⟩ := hk_k4s_eq hk hd x j (by omega)
    refine ⟨qv k (dr k d) (dr 2 d) x j, ?_⟩
    unfold hk_k4s
    rw [e, Option.bind_some]
    simp -implicitDefEqProofs only [tab_length]
    have hs : 0 < 4 ^ j := Nat.pow_pos (by omega)
    have hn : 0 < 2 ^ (k - 2 * j) := Nat.two_pow_pos _
    have hN : 2 ^ k = 2 ^ (k - 2 * j) * 4 ^ j := by rw [four_pow, ← Nat.pow_add]; congr 1; omega
    have hst : 2 ^ k / 2 ^ (k - 2 * j) = 4 ^ j := by rw [hN, Nat.mul_div_cancel_left _ hn]
    have h4 : 2 ^ (k - 2 * j) = 4 * (2 ^ (k - 2 * j) / 4) := by
      rw [two_quarter (k := k) (j := j) hj, Nat.mul_div_cancel_left _ (by omega)]
    rw [hst, hk_qout_eq hN hs h4 (dr_two_sq hd) (fun i => dr k d ^ i) (2 ^ k) (Nat.le_refl _) (W := dr k d ^ 4 ^ j) (fun i => by rw [Nat.mul_comm, pow_mul'])]
    rfl
theorem hk_k4r_eq {k : Nat} (hk : k ≤ 20) {d : Int} (hd : d = 0 ∨ d = 1) (x : Nat → F) :
    hk_k4r (tab (2 ^ k) (fun i => dr k d ^ i)) (un (dr 2 d)) k (tab (2 ^ k) x) = some (tab (2 ^ k) (fun p => dft (2 ^ k) (dr k d) x p)) := by
  have key : ∀ q, q < 4 ^ (k / 2) → ∀ p, dft (2 ^ k) (dr k d) x (q + 4 ^ (k / 2) * p) = Sm (2 ^ (k - 2 * (k / 2))) (fun m => qv k (dr k d) (dr 2 d) x (k / 2) (q + 4 ^ (k / 2) * m) * (dr k d ^ 4 ^ (k / 2)) ^ (m * p)) := fun q hq p => by
    by_cases h2 : 2 ≤ k
    · rw [← qv_sum (dr k d) (dr 2 d) (dr_drop (by omega) h2 hd) (u4_of (dr_two_sq hd)) x (k / 2) (by omega) q hq p]
      unfold dft
      exact Sm_congr (fun m _ => by rw [← pow_mul', Nat.mul_comm m])
    · have e : k / 2 = 0 := by omega
      rw [e] at hq ⊢
      obtain rfl : q = 0 := by rw [Nat.pow_zero] at hq; omega
      unfold dft
      refine Sm_congr (fun m _ => ?_)
      show x m * (dr k d ^ (0 + 1 * p)) ^ m = x (0 + 1 * m) * (dr k d ^ 1) ^ (m * p)
      rw [Nat.zero_add, Nat.zero_add, Nat.one_mul, Nat.one_mul, k1 (dr k d), ← pow_mul', Nat.mul_comm m]
  obtain ⟨g0, e⟩ := hk_k4s_eq hk hd x (k / 2) (by omega)
  unfold hk_k4r
  rw [e, Option.bind_some]
  have hs : 0 < 4 ^ (k / 2) := Nat.pow_pos (by omega)
  rcases Nat.mod_two_eq_zero_or_one k with h0 | h1
  · rw [if_neg (by omega)]
    have hN : 2 ^ k = 4 ^ (k / 2) := by rw [four_pow]; congr 1; omega
    refine congrArg some (tab_congr (fun p hp => ?_))
    have := key p (by omega) 0
    rw [Nat.mul_zero, Nat.add_zero, show k - 2 * (k / 2) = 0 by omega] at this
    rw [this]
    show _ = 0 + qv k (dr k d) (dr 2 d) x (k / 2) (p + 4 ^ (k / 2) * 0) * (dr k d ^ 4 ^ (k / 2)) ^ (0 * 0)
    rw [Nat.mul_zero, Nat.add_zero, Nat.mul_zero]
    exact k2 _ _
  · rw [if_pos h1]
    have hN : 2 ^ k = 2 * 4 ^ (k / 2) := by
      rw [four_pow, show 2 * 2 ^ (2 * (k / 2)) = 2 ^ (2 * (k / 2) + 1) by rw [Nat.pow_succ]; omega]; congr 1; omega
    have hw : dr k d ^ 4 ^ (k / 2) = -1 := by
      rw [four_pow, show 2 * (k / 2) = k - 1 by omega]
      exact dr_half4 (by omega) (by omega) hd
    rw [hw] at key
    rw [show k - 2 * (k / 2) = 1 by omega] at key
    generalize 4 ^ (k / 2) = s at *
    rw [hN, hk_hin_eq s _ g0 s (Nat.le_refl _), ← hN]
    refine congrArg some (tab_congr (fun p hp => ?_))
    unfold h4v
    by_cases c : p < s
    · have := key p c 0
      rw [Nat.mul_zero, Nat.add_zero] at this
      rw [if_pos c, this]
      show _ = 0 + qv k (dr k d) (dr 2 d) x (k / 2) (p + s * 0) * (-1) ^ (0 * 0) + qv k (dr k d) (dr 2 d) x (k / 2) (p + s * 1) * (-1) ^ (1 * 0)
      rw [Nat.mul_zero, Nat.add_zero, Nat.mul_one, Nat.mul_zero]
      exact k3 _ _
    · have := key (p - s) (by omega) 1
      rw [Nat.mul_one, show p - s + s = p by omega] at this
      rw [if_neg c, if_pos (by omega), this]
      show _ = 0 + qv k (dr k d) (dr 2 d) x (k / 2) (p - s + s * 0) * (-1) ^ (0 * 1) + qv k (dr k d) (dr 2 d) x (k / 2) (p - s + s * 1) * (-1) ^ (1 * 1)
      rw [Nat.mul_zero, Nat.add_zero, Nat.mul_one s, show p - s + s = p by omega, Nat.zero_mul, Nat.mul_one]
      exact k4 _ _
where
  k1 {R : Nat} [NeZero R] (w : Fin R) : w ^ 1 = w := by grind
  k2 {R : Nat} [NeZero R] (a w : Fin R) : a = 0 + a * w ^ 0 := by grind
  k3 {R : Nat} [NeZero R] (a b : Fin R) : a + b = 0 + a * (-1) ^ 0 + b * (-1) ^ 0 := by grind
  k4 {R : Nat} [NeZero R] (a b : Fin R) : a - b = 0 + a * (-1) ^ 0 + b * (-1) ^ 1 := by grind

theorem scale_one {k : Nat} {l : List Int} (hl : l.length = 2 ^ k) : tab l.length (fun i => co l i * cv 1) = tab (2 ^ k) (co l) := by
  rw [hl]
  exact tab_congr (fun i _ => by rw [cv_one]; exact kk _)
where kk {R : Nat} [NeZero R] (a : Fin R) : a * 1 = a := by grind
theorem gold_Pow_l0_ev : ∀ (m : Nat) (n : Nat) (x y : F), n < 2 ^ m → n < 18446744073709551616 → Ev (fun k => gold_Pow.l0 k (n : Int) (un x) (un y)) (un (x * y ^ n))
  | 0, n, x, y, h, _ => by
    obtain rfl : n = 0 := by simpa using h
    refine Ev.step (f := fun _ => some (un x)) (fun k => ?_) ?_
    · simp only [gold_Pow.l0]; rw [if_neg (by omega)]
    · have : x * y ^ 0 = x := by grind
      rw [this]; exact Ev.now _
  | m + 1, n, x, y, h, hn => by
    have hm : n / 2 < 2 ^ m := by rw [Nat.pow_succ] at h; omega
    have e2 : ((n : Int) / 2) = ((n / 2 : Nat) : Int) := by omega
    by_cases h0 : n = 0
    · subst h0
      refine Ev.step (f := fun _ => some (un x)) (fun k => ?_) ?_
      · simp only [gold_Pow.l0]; rw [if_neg (by omega)]
      · have : x * y ^ 0 = x := by grind
        rw [this]; exact Ev.now _
    · have hU : U (n : Int) := ⟨by omega, by omega⟩
      by_cases h1 : n % 2 = 1
      · refine Ev.step (f := fun k => gold_Pow.l0 k ((n / 2 : Nat) : Int) (un (x * y)) (un (y * y))) (fun k => ?_) ?_
        · simp only [gold_Pow.l0]
          rw [if_pos (by omega), and_one hU, if_pos (by omega), gold_Mul_eq (U_un _) (U_un _), gold_Mul_eq (U_un _) (U_un _), e2]
          simp only [Option.bind_some, cv_un]
        · have ih := gold_Pow_l0_ev m (n / 2) (x * y) (y * y) hm (by omega)
          have e : x * y * (y * y) ^ (n / 2) = x * y ^ n := by
            have : n = 2 * (n / 2) + 1 := by omega
            rw [show y * y = y ^ 2 by grind, ← pow_mul']
            rw [show x * y * y ^ (2 * (n / 2)) = x * y ^ (2 * (n / 2) + 1) by grind, ← this]
          rw [e] at ih; exact ih
      · refine Ev.step (f := fun k => gold_Pow.l0 k ((n / 2 : Nat) : Int) (un x) (un (y * y))) (fun k => ?_) ?_
        · simp only [gold_Pow.l0]
          rw [if_pos (by omega), and_one hU, if_neg (by omega), gold_Mul_eq (U_un _) (U_un _), e2]
          simp only [Option.bind_some, cv_un]
        · have ih := gold_Pow_l0_ev m (n / 2) x (y * y) hm (by omega)
          have e : x * (y * y) ^ (n / 2) = x * y ^ n := by
            have : n = 2 * (n / 2) := by omega
            rw [show y * y = y ^ 2 by grind, ← pow_mul', ← this]
          rw [e] at ih; exact ih
theorem gold_Pow_ev {a n : Int} (ha : U a) (hn : U n) : Ev (fun k => gold_Pow.f k a n) (un (cv a ^ n.toNat)) := by
  have h := gold_Pow_l0_ev 64 n.toNat 1 (cv a) (by have := hn.2; omega) (by have := hn.2; omega)
  rw [un_one, Int.toNat_of_nonneg hn.1] at h
  have e : 1 * cv a ^ n.toNat = cv a ^ n.toNat := by grind
  rw [e] at h
  refine Ev.congr (fun k => ?_) h
  unfold gold_Pow.f
  rw [gold_Of_eq ha]; rfl

def erz (x : F) : Int := if x = 0 then 13 else 0
theorem erz_ne {x : F} (h : x ≠ 0) : erz x = 0 := if_neg h
theorem erz_zero : erz 0 = 13 := if_pos rfl
theorem gold_Inv_ev {a : Int} (h : U a) : Ev (fun k => gold_Inv.f k a) (un (inv (cv a)), erz (cv a)) := by
  unfold gold_Inv.f
  rw [gold_Of_eq h]
  simp -implicitDefEqProofs only [Option.bind_some]
  by_cases c : cv a = 0
  · have c' : un (cv a) = 0 := un_eq_zero.2 c
    simp -implicitDefEqProofs only [c', if_true]
    rw [c, inv_zero, erz_zero, un_zero]; exact Ev.now _
  · have c' : ¬ un (cv a) = 0 := fun h => c (un_eq_zero.1 h)
    simp -implicitDefEqProofs only [c', if_false, erz_ne c]
    refine Ev.bind (gold_Pow_ev h ⟨by omega, by omega⟩) ?_
    exact Ev.now _

theorem twid_Share_ev {k : Nat} (hk : k ≤ 32) : Ev (fun n => twid_Share.f n (k : Int)) (un (sh k), 0) := by
  unfold twid_Share.f
  have c : (0 : Int) ≤ IntKind.u64.wrap (k : Int) := (U_wrap _).1
  simp -implicitDefEqProofs only [show ¬ (k : Int) < 0 by omega, show ¬ (k : Int) > 32 by omega, if_false, c, if_true, shl_u64 (show k ≤ 63 by omega)]
  have h := gold_Inv_ev (U_two_pow (n := k) (by omega))
  rw [erz_ne (two_pow_ne hk)] at h
  refine Ev.bind h ?_
  exact Ev.now _
theorem root_good_yes {a : Int} (h0 : 0 ≤ a) (h1 : a ≤ 32) : root_good.f a = some true := by
  unfold root_good.f; rw [if_pos h0, decide_eq_true h1]
theorem shr_word {k : Nat} (hk : k ≤ 32) : shr .u64 18446744069414584320 (IntKind.u64.wrap (k : Int)) = ((18446744069414584320 / 2 ^ k : Nat) : Int) := by
  unfold shr
  rw [wu64_of ⟨by omega, by omega⟩, Int.toNat_natCast, Nat.min_eq_left (by rw [show IntKind.u64.bits = 64 from rfl]; omega)]
  rw [Int.natCast_ediv]; congr 1
theorem root_root_ev {k : Nat} (hk : k ≤ 32) : Ev (fun n => root_root.f n (k : Int)) (un (rt k)) := by
  unfold root_root.f
  have c : (0 : Int) ≤ IntKind.u64.wrap (k : Int) := (U_wrap _).1
  have hp : 18446744069414584320 / 2 ^ k ≤ 18446744069414584320 := Nat.div_le_self _ _
  simp -implicitDefEqProofs only [c, if_true, shr_word hk]
  have hu : U ((18446744069414584320 / 2 ^ k : Nat) : Int) := by
    generalize 18446744069414584320 / 2 ^ k = q at *
    exact ⟨by omega, by omega⟩
  refine Ev.bind (gold_Pow_ev ⟨by omega, by omega⟩ hu) ?_
  rw [Int.toNat_natCast]
  exact Ev.now _

theorem root_Root_ev {k : Nat} (hk : k ≤ 32) : Ev (fun n => root_Root.f n (k : Int)) (un (rt k), 0) := by
  unfold root_Root.f
  rw [root_good_yes (by omega) (by omega)]
  simp -implicitDefEqProofs only [Option.bind_some, if_true]
  exact Ev.bind (root_root_ev hk) (Ev.now _)
theorem root_Back_ev {k : Nat} (hk : k ≤ 32) : Ev (fun n => root_Back.f n (k : Int)) (un (inv (rt k)), 0) := by
  unfold root_Back.f
  rw [root_good_yes (by omega) (by omega)]
  simp -implicitDefEqProofs only [Option.bind_some, if_true]
  refine Ev.bind (root_root_ev hk) ?_
  have h := gold_Inv_ev (U_un (rt k))
  rw [cv_un, erz_ne (rt_ne_zero k)] at h
  refine Ev.bind h ?_
  exact Ev.now _
theorem twid_Root_ev {k : Nat} (hk : k ≤ 32) {d : Int} (hd : d = 0 ∨ d = 1) : Ev (fun n => twid_Root.f n (k : Int) d) (un (dr k d), 0) := by
  unfold twid_Root.f
  simp -implicitDefEqProofs only [show ¬ (k : Int) < 0 by omega, if_false, decide_eq_false (show ¬ (k : Int) > 32 by omega)]
  refine Ev.step (fun n => twid_Root.j0.eq_2 ..) ?_
  rcases hd with rfl | rfl
  · simp -implicitDefEqProofs only [show ¬ (false = true) by decide, if_false, if_true]
    refine Ev.bind (root_Root_ev hk) ?_
    rw [dr_fwd]; exact Ev.now _
  · simp -implicitDefEqProofs only [show ¬ (false = true) by decide, if_false, if_true, show ¬ (1 : Int) = 0 by omega]
    refine Ev.bind (root_Back_ev hk) ?_
    rw [dr_inv]; exact Ev.now _
theorem root_Powers_ev {w : Int} (hw : U w) {n : Nat} (hn : n ≤ 1048576) : Ev (fun k => root_Powers.f k w (n : Int)) (tab n (fun i => cv w ^ i), 0) := by
  unfold root_Powers.f
  have c1 : ¬ ((n : Int) < 0) := by omega
  have c2 : decide ((n : Int) > 1048576) = false := decide_eq_false (by omega)
  simp -implicitDefEqProofs only [c1, c2, if_false]
  refine Ev.step (fun k => root_Powers.j0.eq_2 ..) ?_
  have c3 : (0 : Int) ≤ (n : Int) := by omega
  have c4 : n ≤ 35184372088832 := by omega
  simp -implicitDefEqProofs only [c3, c4, Int.toNat_natCast, if_true, if_false, show ¬ (false = true) by decide, Option.bind_some, replicate_tab, tab_length]
  have e0 : tab n (fun _ => (0 : F)) = tab n (fun j => if j < 0 then cv w ^ j else 0) := tab_congr (fun j hj => by rw [if_neg (by omega)])
  have e1 : (1 : Int) = un (cv w ^ 0) := by rw [show cv w ^ 0 = 1 by grind, un_one]
  rw [e0, e1]
  refine Ev_loop n (fun k i => root_Powers.l0 k w (tab n (fun j => if j < i then cv w ^ j else 0)) (un (cv w ^ i)) (n : Int) (i : Int)) ?_ (fun i hi ih => ?_) 0 (Nat.zero_le _)
  · refine Ev.step (fun k => root_Powers.l0.eq_2 ..) ?_
    simp -implicitDefEqProofs only [Int.lt_irrefl, if_false]
    have e : tab n (fun j => if j < n then cv w ^ j else 0) = tab n (fun i => cv w ^ i) := tab_congr (fun j hj => by rw [if_pos hj])
    rw [e]
    exact Ev.now _
  · refine Ev.step (fun k => root_Powers.l0.eq_2 ..) ?_
    have c1 : (i : Int) < (n : Int) := by omega
    have c2 : (0 : Int) ≤ (i : Int) := by omega
    have es : cv w ^ i * cv w = cv w ^ (i + 1) := by grind
    simp -implicitDefEqProofs only [c1, c2, tab_length, if_true, gold_Mul_eq (U_un _) hw, Option.bind_some, cv_un, Int.toNat_natCast, tab_set, es, nat64_succ (show i < 9223372036854775807 by omega)]
    have e : tab n (fun j => if j = i then cv w ^ i else if j < i then cv w ^ j else 0) = tab n (fun j => if j < i + 1 then cv w ^ j else 0) := by
      apply tab_congr
      intro j hj
      by_cases hji : j = i
      · subst hji; rw [if_pos rfl, if_pos (by omega)]
      · rw [if_neg hji]
        by_cases hh : j < i
        · rw [if_pos hh, if_pos (by omega)]
        · rw [if_neg hh, if_neg (by omega)]
    rw [e]
    exact ih
def hf (k : Nat) : Nat := max (2 ^ k / 2) 1
theorem twid_Table_ev {k : Nat} {d : Int} (hk : k ≤ 20) (hd : d = 0 ∨ d = 1) : Ev (fun n => twid_Table.f n (k : Int) d) (tab (hf k) (fun i => dr k d ^ i), 0) := by
  have hp := two_pow_lt (n := k) (m := 20) hk
  unfold twid_Table.f
  refine Ev.bind (twid_Root_ev (by omega) hd) ?_
  have c : (0 : Int) ≤ IntKind.u64.wrap (k : Int) := (U_wrap _).1
  have e : mx (((2 ^ k : Nat) : Int) / 2) 1 = ((hf k : Nat) : Int) := by unfold mx hf; omega
  simp -implicitDefEqProofs only [if_true, show ¬ (k : Int) > 20 by omega, if_false, c, shl_i64 (show k ≤ 62 by omega), e]
  refine Ev.bind (root_Powers_ev (U_un _) (by unfold hf; omega)) ?_
  rw [cv_un]
  exact Ev.now _
theorem kern4_whole_ev {k : Nat} (hk : k ≤ 20) {d : Int} (hd : d = 0 ∨ d = 1) : Ev (fun n => kern4_whole.f n (k : Int) d) (tab (2 ^ k) (fun i => dr k d ^ i)) := by
  unfold kern4_whole.f
  refine Ev.bind (twid_Table_ev hk hd) ?_
  have hp := two_pow_lt (n := k) (m := 20) hk
  have hh : hf k ≤ 2 ^ k := by unfold hf; have := Nat.two_pow_pos k; omega
  have c1 : ([] : List Int).length + (tab (hf k) (fun i => dr k d ^ i)).length < 17592186044416 := by rw [List.length_nil, tab_length]; omega
  simp -implicitDefEqProofs only [Option.bind_some, c1, if_true, List.nil_append]
  by_cases hk0 : k = 0
  · subst hk0
    simp -implicitDefEqProofs only [show ¬ ((0 : Nat) : Int) > 0 by omega, if_false]
    exact Ev.now _
  · simp -implicitDefEqProofs only [show (k : Int) > 0 by omega, if_true]
    have hfk : hf k = 2 ^ (k - 1) := by
      unfold hf
      obtain ⟨m, rfl⟩ : ∃ m, k = m + 1 := ⟨k - 1, by omega⟩
      have := Nat.two_pow_pos m
      rw [Nat.pow_succ, Nat.mul_div_cancel _ (by omega), show m + 1 - 1 = m by omega]
      omega
    have h2 : 2 ^ k = 2 ^ (k - 1) + 2 ^ (k - 1) := by
      obtain ⟨m, rfl⟩ : ∃ m, k = m + 1 := ⟨k - 1, by omega⟩
      rw [Nat.pow_succ, show m + 1 - 1 = m by omega]; omega
    rw [hfk]
    have hq : 2 ^ (k - 1) ≤ 2 ^ 20 := by omega
    have half := dr_half4 (k := k) (by omega) (by omega) hd
    rw [h2]
    obtain ⟨n, hn⟩ : ∃ n, n = 2 ^ (k - 1) := ⟨_, rfl⟩
    rw [← hn] at hq half ⊢
    have key := Ev_loop n (fun m i => kern4_whole.l0 m (tab (n + i) (fun i => dr k d ^ i)) (tab n (fun i => dr k d ^ i)) ((tab n (fun i => dr k d ^ i)).length : Int) (i : Int)) (r := tab (n + n) (fun i => dr k d ^ i)) ?_ ?_ 0 (Nat.zero_le _)
    · exact key
    · refine Ev.step (fun m => kern4_whole.l0.eq_2 ..) ?_
      simp -implicitDefEqProofs only [tab_length, show ¬ (n : Int) < (n : Int) by omega, if_false]
      exact Ev.now _
    · intro i hi ih
      refine Ev.step (fun m => kern4_whole.l0.eq_2 ..) ?_
      have e1 : gold_Neg.f (un (dr k d ^ i)) = some (un (dr k d ^ (n + i))) := by
        rw [gold_Neg_eq (U_un _), cv_un, pow_add', half, k3]
      have e3 : tab (n + i) (fun i => dr k d ^ i) ++ [un (dr k d ^ (n + i))] = tab (n + (i + 1)) (fun i => dr k d ^ i) := (tab_succ (n + i) _).symm
      simp -implicitDefEqProofs only [tab_length, show (i : Int) < (n : Int) by omega, show (0 : Int) ≤ (i : Int) by omega, if_true, rd_tab hi, e1, Option.bind_some, show n + i < 17592186044416 by omega, e3, nat64_succ (show i < 9223372036854775807 by omega)]
      simp -implicitDefEqProofs only [tab_length] at ih
      exact ih
where k3 {R : Nat} [NeZero R] (a : Fin R) : -1 * a = -a := by grind

theorem kern4_Unit_ev {d : Int} (hd : d = 0 ∨ d = 1) : Ev (fun n => kern4_Unit.f n d) (un (dr 2 d), 0) := by
  unfold kern4_Unit.f
  refine Ev.bind (twid_Root_ev (k := 2) (by omega) hd) ?_
  exact Ev.now _
theorem conv_times_ev {n : Nat} {a b : List Int} (ha : UL a) (hb : UL b) (hl : a.length = n) (hl2 : b.length = n) (hn : n < 4294967296) : Ev (fun k => conv_times.f k a b) (tab n (fun i => co a i * co b i)) := by
  unfold conv_times.f
  have d1 : (0 : Int) ≤ (a.length : Int) := by omega
  have d2 : a.length ≤ 35184372088832 := by omega
  simp -implicitDefEqProofs only [d1, d2, if_true, Int.toNat_natCast, replicate_tab, Option.bind_some, tab_length]
  rw [hl]
  have e0 : tab n (fun _ => (0 : F)) = tab n (fun j => if j < 0 then co a j * co b j else 0) := tab_congr (fun j hj => by rw [if_neg (by omega)])
  rw [e0]
  refine Ev_loop n (fun k i => conv_times.l0 k a b (tab n (fun j => if j < i then co a j * co b j else 0)) (n : Int) (i : Int)) ?_ (fun i hi ih => ?_) 0 (Nat.zero_le _)
  · refine Ev.step (fun k => conv_times.l0.eq_2 ..) ?_
    simp -implicitDefEqProofs only [Int.lt_irrefl, if_false]
    rw [tab_congr (g := fun i => co a i * co b i) (fun i hi => by rw [if_pos hi])]
    exact Ev.now _
  · refine Ev.step (fun k => conv_times.l0.eq_2 ..) ?_
    have c1 : (i : Int) < (n : Int) := by omega
    have c2 : (0 : Int) ≤ (i : Int) := by omega
    have c3 : (i : Int) < (a.length : Int) := by omega
    have c4 : (i : Int) < (b.length : Int) := by omega
    simp -implicitDefEqProofs only [c1, c2, c3, c4, tab_length, if_true, gold_Mul_eq (U_rd ha _) (U_rd hb _), Option.bind_some, cv_rd, Int.toNat_natCast, tab_set, nat64_succ (show i < 9223372036854775807 by omega)]
    have e : tab n (fun j => if j = i then co a i * co b i else if j < i then co a j * co b j else 0) = tab n (fun j => if j < i + 1 then co a j * co b j else 0) := by
      apply tab_congr
      intro j hj
      by_cases hji : j = i
      · subst hji; rw [if_pos rfl, if_pos (by omega)]
      · rw [if_neg hji]
        by_cases hh : j < i
        · rw [if_pos hh, if_pos (by omega)]
        · rw [if_neg hh, if_neg (by omega)]
    rw [e]
    exact ih

theorem hk_kern_ev {k : Nat} (hk : k ≤ 20) : Ev (fun n => hk_kern n (k : Int)) (tab (2 ^ k) (fun i => dr k 0 ^ i), tab (2 ^ k) (fun i => dr k 1 ^ i), un (dr 2 0), un (dr 2 1), un (sh k)) := by
  unfold hk_kern
  refine Ev.bind (twid_Table_ev (by omega) (.inl rfl)) ?_
  refine Ev.bind (twid_Table_ev (by omega) (.inr rfl)) ?_
  refine Ev.bind (kern4_whole_ev hk (.inl rfl)) ?_
  refine Ev.bind (kern4_whole_ev hk (.inr rfl)) ?_
  refine Ev.bind (kern4_Unit_ev (.inl rfl)) ?_
  refine Ev.bind (kern4_Unit_ev (.inr rfl)) ?_
  refine Ev.bind (twid_Share_ev (by omega)) ?_
  exact Ev.now _
theorem hk_fwd_ev {l : List Int} (h : UL l) {k : Nat} (hk : k ≤ 20) {d : Int} (hd : d = 0 ∨ d = 1) (hl : l.length = 2 ^ k) : Ev (fun n => hk_fwd n k (tab (2 ^ k) (fun i => dr k d ^ i)) (un (dr 2 d)) l) (tab (2 ^ k) (fun j => dft (2 ^ k) (dr k d) (co l) j)) := by
  have hp := two_pow_lt (n := k) (m := 20) hk
  unfold hk_fwd
  refine Ev.bind (twid_Scale_ev h (by omega) U_one) ?_
  rw [scale_one hl]
  have c : (tab (2 ^ k) (co l)).length = l.length ∧ l.length = 2 ^ k ∧ (tab (2 ^ k) (fun i => dr k d ^ i)).length = 2 ^ k := ⟨by rw [tab_length, hl], hl, tab_length _ _⟩
  simp -implicitDefEqProofs only [if_pos c, hk_k4r_eq hk hd (co l)]
  exact Ev.now _
theorem hk_fwd_tf {l : List Int} (h : UL l) {k : Nat} (hk : k ≤ 20) (hl : l.length = 2 ^ k) : Ev (fun n => hk_fwd n k (tab (2 ^ k) (fun i => dr k 0 ^ i)) (un (dr 2 0)) l) (tab (2 ^ k) (tf k 0 (co l))) := by
  have e := hk_fwd_ev h hk (d := 0) (.inl rfl) hl
  rw [tab_congr (fun j _ => (tf_fwd k (co l) j).symm)] at e
  exact e
theorem hk_bwd_ev {l : List Int} (h : UL l) {k : Nat} (hk : k ≤ 20) (hl : l.length = 2 ^ k) : Ev (fun n => hk_bwd n k (tab (2 ^ k) (fun i => dr k 1 ^ i)) (un (dr 2 1)) (un (sh k)) l) (tab (2 ^ k) (tf k 1 (co l))) := by
  have hp := two_pow_lt (n := k) (m := 20) hk
  unfold hk_bwd
  refine Ev.bind (hk_fwd_ev h hk (.inr rfl) hl) ?_
  refine Ev.bind (twid_Scale_ev (UL_tab _ _) (by rw [tab_length]; omega) (U_un (sh k))) ?_
  have e2 : tab (tab (2 ^ k) (fun j => dft (2 ^ k) (dr k 1) (co l) j)).length (fun i => co (tab (2 ^ k) (fun j => dft (2 ^ k) (dr k 1) (co l) j)) i * cv (un (sh k))) = tab (2 ^ k) (tf k 1 (co l)) := by
    rw [tab_length]
    refine tab_congr (fun p hp => ?_)
    rw [co_tab_lt hp, cv_un]
    exact (if_pos rfl).symm
  rw [e2]
  have c : (tab (2 ^ k) (tf k 1 (co l))).length = (tab (2 ^ k) (fun j => dft (2 ^ k) (dr k 1) (co l) j)).length := by rw [tab_length, tab_length]
  simp -implicitDefEqProofs only [if_pos c]
  exact Ev.now _
theorem conv_cyclic_ev {a b : List Int} (ha : UL a) (hb : UL b) {k : Nat} (hk : k ≤ 20) (hl : a.length = 2 ^ k) (hl2 : b.length = 2 ^ k) : Ev (fun n => conv_cyclic.f n a b (k : Int)) (tab (2 ^ k) (wrp (2 ^ k) 1 (co a) (co b))) := by
  have hp := two_pow_lt (n := k) (m := 20) hk
  unfold conv_cyclic.f
  have c : (0 : Int) ≤ (k : Int) ∧ (k : Int) ≤ 20 ∧ a.length = 2 ^ k ∧ b.length = 2 ^ k := ⟨by omega, by omega, hl, hl2⟩
  simp -implicitDefEqProofs only [Int.toNat_natCast]
  simp -implicitDefEqProofs only [if_pos c]
  refine Ev.bind (hk_kern_ev hk) ?_
  refine Ev.bind (hk_fwd_tf ha hk hl) ?_
  refine Ev.bind (hk_fwd_tf hb hk hl2) ?_
  refine Ev.bind (conv_times_ev (n := 2 ^ k) (UL_tab _ _) (UL_tab _ _) (tab_length _ _) (tab_length _ _) (by omega)) ?_
  have e := hk_bwd_ev (l := tab (2 ^ k) (fun i => co (tab (2 ^ k) (tf k 0 (co a))) i * co (tab (2 ^ k) (tf k 0 (co b))) i)) (UL_tab _ _) hk (tab_length _ _)
  have e2 : tab (2 ^ k) (tf k 1 (co (tab (2 ^ k) (fun i => co (tab (2 ^ k) (tf k 0 (co a))) i * co (tab (2 ^ k) (tf k 0 (co b))) i)))) = tab (2 ^ k) (wrp (2 ^ k) 1 (co a) (co b)) := by
    refine tab_congr (fun j hj => ?_)
    rw [← wrp_tf (by omega) (co a) (co b) hj]
    exact tf_congr (fun i hi => by rw [co_tab_lt hi, co_tab_lt hi, co_tab_lt hi]) j
  rw [e2] at e
  exact e

theorem conv_padded_ev {p : List Int} {k : Nat} (hk : k ≤ 20) (h0 : 0 < p.length) (hl : p.length ≤ 2 ^ k) : Ev (fun n => conv_padded.f n p (k : Int)) (p ++ List.replicate (2 ^ k - p.length) 0) := by
  have c : (0 : Int) ≤ (k : Int) ∧ (k : Int) ≤ 20 ∧ 0 < p.length ∧ p.length ≤ 2 ^ k := ⟨by omega, by omega, h0, hl⟩
  unfold conv_padded.f
  simp -implicitDefEqProofs only [Int.toNat_natCast]
  rw [if_pos c]
  exact Ev.now _
theorem pad_tr {m n : Nat} {f : Nat → F} (hf : ∀ i, m ≤ i → f i = 0) (h : dg m f ≤ n) : tr m f ++ List.replicate (n - (tr m f).length) 0 = tab n f := by
  rw [tr_length]
  unfold tr
  rw [replicate_tab, tab_append, show dg m f + (n - dg m f) = n by omega]
  refine tab_congr (fun i hi => ?_)
  by_cases c : i < dg m f
  · rw [if_pos c]
  · rw [if_neg c]
    rcases Nat.lt_or_ge i m with d | d
    · exact (dg_out (by omega) d).symm
    · exact (hf i d).symm

theorem product_none {a b : List Int} (k : Nat) : Ev (fun k => conv_product.j0 k a b true) [] := by
  refine Ev.step (fun k => conv_product.j0.eq_2 ..) ?_
  exact Ev.now _
theorem conv_product_ev {p q : List Int} (hp : UL p) (hq : UL q) (hl : p.length + q.length ≤ 524288) : Ev (fun k => conv_product.f k p q) (pmul p q) := by
  unfold conv_product.f
  refine Ev.bind (poly_Trim_ev hp (by omega)) ?_
  refine Ev.bind (poly_Trim_ev hq (by omega)) ?_
  have hdp := dg_le p.length (co p)
  have hdq := dg_le q.length (co q)
  rw [tr_length, tr_length]
  by_cases c1 : dg p.length (co p) = 0
  · simp -implicitDefEqProofs only [show (dg p.length (co p) : Int) = 0 by omega, if_true]
    have e : pmul p q = [] := tr_zero (fun i _ => by
      refine Sm_zeros (fun j _ => ?_)
      have : co p j = 0 := by
        rcases Nat.lt_or_ge j p.length with d | d
        · exact dg_out (by omega) d
        · exact co_out d
      rw [this]; exact k1 _)
    rw [e]
    exact product_none 0
  simp -implicitDefEqProofs only [show ¬ (dg p.length (co p) : Int) = 0 by omega, if_false]
  by_cases c2 : dg q.length (co q) = 0
  · have e0 : ((dg q.length (co q) : Int) == 0) = true := beq_iff_eq.2 (by omega)
    have e : pmul p q = [] := tr_zero (fun i _ => by
      refine Sm_zeros (fun j _ => ?_)
      have : co q (i - j) = 0 := by
        rcases Nat.lt_or_ge (i - j) q.length with d | d
        · exact dg_out (by omega) d
        · exact co_out d
      rw [this]; exact k2 _)
    rw [e0, e]
    exact product_none 0
  have e0 : ((dg q.length (co q) : Int) == 0) = false := beq_eq_false_iff_ne.2 (by omega)
  rw [e0]
  refine Ev.step (fun k => conv_product.j0.eq_2 ..) ?_
  simp -implicitDefEqProofs only [Bool.false_eq_true, if_false, tr_length]
  obtain ⟨e, he, hle, hE⟩ := conv_exponent_ev (n := dg p.length (co p) + dg q.length (co q) - 1) (by omega)
  have ea : wrap64 (wrap64 ((dg p.length (co p) : Int) + (dg q.length (co q) : Int)) - 1) = ((dg p.length (co p) + dg q.length (co q) - 1 : Nat) : Int) := by
    rw [add64 (by omega), wrap64_of (by omega) (by omega)]; omega
  rw [ea]
  refine Ev.bind hE ?_
  have hp2 := two_pow_lt (n := e) (m := 19) he
  refine Ev.bind (conv_padded_ev (by omega) (by rw [tr_length]; omega) (by rw [tr_length]; omega)) ?_
  refine Ev.bind (conv_padded_ev (by omega) (by rw [tr_length]; omega) (by rw [tr_length]; omega)) ?_
  rw [pad_tr (row_out p) (by omega), pad_tr (row_out q) (by omega)]
  refine Ev.bind (conv_cyclic_ev (UL_tab _ _) (UL_tab _ _) (by omega) (tab_length _ _) (tab_length _ _)) ?_
  refine Ev.bind (poly_Trim_ev (UL_tab _ _) (by rw [tab_length]; omega)) ?_
  refine Ev.congr (fun _ => ?_) (Ev.now _)
  refine congrArg some ?_
  rw [tab_length]
  unfold pmul
  have op : ∀ i, dg p.length (co p) ≤ i → co p i = 0 := fun i hi => by
    rcases Nat.lt_or_ge i p.length with d | d
    · exact dg_out hi d
    · exact co_out d
  have oq : ∀ i, dg q.length (co q) ≤ i → co q i = 0 := fun i hi => by
    rcases Nat.lt_or_ge i q.length with d | d
    · exact dg_out hi d
    · exact co_out d
  rw [tr_congr (n := 2 ^ e) (g := cvl (co p) (co q)) (fun j hj => by
    rw [co_tab_lt hj, wrp_congr hj (fun i hi => co_tab_lt hi) (fun i hi => co_tab_lt hi), wrp_fold hj 1 (fun i hi => op i (by omega)) (fun i hi => oq i (by omega)), cvl_out op oq (k := j + 2 ^ e) (by omega)]
    exact k3 _)]
  exact tr_eq (fun _ => rfl) (fun i hi => cvl_out op oq (by omega)) (fun i hi => cvl_out (row_out p) (row_out q) (by omega))
where
  k1 {R : Nat} [NeZero R] (x : Fin R) : 0 * x = 0 := by grind
  k2 {R : Nat} [NeZero R] (x : Fin R) : x * 0 = 0 := by grind
  k3 {R : Nat} [NeZero R] (x : Fin R) : x + 1 * 0 = x := by grind

theorem rdl_at (ls : List (List Int)) (i : Nat) : rd_L1 ls (i : Int) = ls.getD i [] := by unfold rd_L1; rw [Int.toNat_natCast]
/-- How many words the first rows have. -/
def tot (l : List (List Int)) : Nat → Nat
  | 0 => 0
  | i + 1 => tot l i + (l.getD i []).length
/-- The product of the first rows. -/
def pst (l : List (List Int)) : Nat → List Int
  | 0 => [1]
  | i + 1 => pmul (pst l i) (l.getD i [])
theorem pst_length (l : List (List Int)) : ∀ i, (pst l i).length ≤ 1 + tot l i
  | 0 => Nat.le_refl _
  | i + 1 => by
    have h1 := pst_length l i
    have h2 := pmul_length (pst l i) (l.getD i [])
    show (pmul (pst l i) (l.getD i [])).length ≤ 1 + (tot l i + (l.getD i []).length)
    omega
theorem tot_le (l : List (List Int)) {i j : Nat} (h : i ≤ j) : tot l i ≤ tot l j := by
  induction j with
  | zero => obtain rfl : i = 0 := by omega
            exact Nat.le_refl _
  | succ j ih =>
    rcases Nat.lt_or_ge i (j + 1) with d | d
    · have := ih (by omega)
      show tot l i ≤ tot l j + _
      omega
    · obtain rfl : i = j + 1 := by omega
      exact Nat.le_refl _
theorem pst_UL (l : List (List Int)) : ∀ i, UL (pst l i)
  | 0 => UL_cons U_one UL_nil
  | i + 1 => UL_tr _ _
theorem rows_UL {l : List (List Int)} (h : ∀ p ∈ l, UL p) (i : Nat) : UL (l.getD i []) := by
  rw [List.getD_eq_getElem?_getD]
  by_cases hi : i < l.length
  · rw [List.getElem?_eq_getElem hi]; exact h _ (List.getElem_mem hi)
  · rw [List.getElem?_eq_none (by omega)]; exact UL_nil
theorem conv_Product_ev {l : List (List Int)} (h : ∀ p ∈ l, UL p) (hn : l.length < 4294967296) (hl : tot l l.length < 524288) : Ev (fun k => conv_Product.f k l) (pst l l.length, 0) := by
  have second : Ev (fun k => conv_Product.l1 k [1] l (l.length : Int) 0) (pst l l.length, 0) := by
    refine Ev_loop l.length (fun k i => conv_Product.l1 k (pst l i) l (l.length : Int) (i : Int)) ?_ (fun i hi ih => ?_) 0 (Nat.zero_le _)
    · refine Ev.step (fun k => conv_Product.l1.eq_2 ..) ?_
      simp -implicitDefEqProofs only [Int.lt_irrefl, if_false]
      exact Ev.now _
    · refine Ev.step (fun k => conv_Product.l1.eq_2 ..) ?_
      simp -implicitDefEqProofs only [show (i : Int) < (l.length : Int) by omega, show (0 : Int) ≤ (i : Int) by omega, if_true, rdl_at, nat64_succ (show i < 9223372036854775807 by omega)]
      have h1 := pst_length l i
      have h2 := tot_le l (show i + 1 ≤ l.length by omega)
      have h3 : tot l (i + 1) = tot l i + (l.getD i []).length := rfl
      refine Ev.bind (conv_product_ev (pst_UL l i) (rows_UL h i) (by omega)) ?_
      exact ih
  unfold conv_Product.f
  refine Ev_loop l.length (fun k i => conv_Product.l0 k l (tot l i : Int) l (l.length : Int) (i : Int)) ?_ (fun i hi ih => ?_) 0 (Nat.zero_le _)
  · refine Ev.step (fun k => conv_Product.l0.eq_2 ..) ?_
    simp -implicitDefEqProofs only [Int.lt_irrefl, if_false]
    exact second
  · refine Ev.step (fun k => conv_Product.l0.eq_2 ..) ?_
    have h2 := tot_le l (show i + 1 ≤ l.length by omega)
    have h3 : tot l (i + 1) = tot l i + (l.getD i []).length := rfl
    have e1 : wrap64 (524288 - (tot l i : Int)) = 524288 - (tot l i : Int) := wrap64_of (by omega) (by omega)
    simp -implicitDefEqProofs only [show (i : Int) < (l.length : Int) by omega, show (0 : Int) ≤ (i : Int) by omega, if_true, rdl_at, e1, show ¬ (((l.getD i []).length : Int) > 524288 - (tot l i : Int)) by omega, if_false, nat64_succ (show i < 9223372036854775807 by omega), add64 (show tot l i + (l.getD i []).length < 9223372036854775808 by omega)]
    exact ih

theorem tree_product_ev {l : List (List Int)} (h : ∀ p ∈ l, UL p) (hn : l.length < 4294967296) (hl : tot l l.length < 524288) : Ev (fun k => tree_product.f k l) (pst l l.length) := by
  unfold tree_product.f
  exact Ev.bind (conv_Product_ev h hn hl) (Ev.now _)

/-- The level above one: two and two's products. -/
def abv : List (List Int) → List (List Int)
  | [] => []
  | [a] => [pst [a] 1]
  | a :: b :: t => pst [a, b] 2 :: abv t
theorem tree_above_go {l : List (List Int)} (hU : ∀ p ∈ l, UL p) (hn : l.length < 4294967296) (hl : ∀ p ∈ l, p.length ≤ 100000) :
    ∀ (n : Nat) (p t o : List (List Int)), t.length ≤ n → l = p ++ t → o.length ≤ p.length → Ev (fun k => tree_above.l0 k l o (p.length : Int)) (o ++ abv t) := by
  have stop : ∀ (i : Nat) (o : List (List Int)), l.length ≤ i → Ev (fun k => tree_above.l0 k l o (i : Int)) o := fun i o h => by
    refine Ev.step (fun k => tree_above.l0.eq_2 ..) ?_
    simp -implicitDefEqProofs only [show ¬ (i : Int) < (l.length : Int) by omega, if_false]
    exact Ev.now _
  intro n
  induction n with
  | zero =>
    intro p t o ht hp _
    obtain rfl : t = [] := List.eq_nil_of_length_eq_zero (by omega)
    rw [show abv [] = [] from rfl, List.append_nil]
    exact stop _ _ (by rw [hp, List.append_nil]; exact Nat.le_refl _)
  | succ n ih =>
    intro p t o ht hp ho
    rcases t with _ | ⟨a, _ | ⟨b, t⟩⟩
    · rw [show abv [] = [] from rfl, List.append_nil]
      exact stop _ _ (by rw [hp, List.append_nil]; exact Nat.le_refl _)
    · have hll : l.length = p.length + 1 := by rw [hp, List.length_append]; rfl
      have ha : a ∈ l := by rw [hp]; simp
      have w2 : wrap64 ((p.length : Int) + 2) = ((p.length + 2 : Nat) : Int) := by rw [wrap64_of (by omega) (by omega)]; omega
      have em : mn ((p.length + 2 : Nat) : Int) (l.length : Int) = (l.length : Int) := by unfold mn; rw [if_pos (by omega)]
      have ec : (l.take l.length).drop p.length = [a] := by rw [List.take_length, hp, List.drop_left]
      refine Ev.step (fun k => tree_above.l0.eq_2 ..) ?_
      simp -implicitDefEqProofs only [show (p.length : Int) < (l.length : Int) by omega, if_true, show (0 : Int) ≤ (p.length : Int) by omega, w2, em, show (p.length : Int) ≤ (l.length : Int) by omega, Int.le_refl, Int.toNat_natCast, ec]
      have ht1 : tot [a] 1 = a.length := by show 0 + a.length = a.length; omega
      refine Ev.bind (tree_product_ev (l := [a]) (fun q hq => by rw [List.mem_singleton] at hq; rw [hq]; exact hU a ha) (show 1 < 4294967296 by decide) (by rw [show [a].length = 1 from rfl, ht1]; have := hl a ha; omega)) ?_
      simp -implicitDefEqProofs only [show o.length < 5864062014805 by omega, if_true]
      exact stop _ _ (by omega)
    · have hll : l.length = p.length + (t.length + 2) := by rw [hp, List.length_append]; rfl
      have ha : a ∈ l := by rw [hp]; simp
      have hb : b ∈ l := by rw [hp]; simp
      have w2 : wrap64 ((p.length : Int) + 2) = ((p.length + 2 : Nat) : Int) := by rw [wrap64_of (by omega) (by omega)]; omega
      have em : mn ((p.length + 2 : Nat) : Int) (l.length : Int) = ((p.length + 2 : Nat) : Int) := by
        unfold mn
        by_cases c : (l.length : Int) < ((p.length + 2 : Nat) : Int)
        · omega
        · rw [if_neg c]
      have ec : (l.take (p.length + 2)).drop p.length = [a, b] := by
        rw [hp, List.take_append, List.take_of_length_le (show p.length ≤ p.length + 2 by omega), List.drop_left, Nat.add_sub_cancel_left]; rfl
      refine Ev.step (fun k => tree_above.l0.eq_2 ..) ?_
      simp -implicitDefEqProofs only [show (p.length : Int) < (l.length : Int) by omega, if_true, show (0 : Int) ≤ (p.length : Int) by omega, w2, em, show (p.length : Int) ≤ ((p.length + 2 : Nat) : Int) by omega, show ((p.length + 2 : Nat) : Int) ≤ (l.length : Int) by omega, Int.toNat_natCast, ec]
      have ht1 : tot [a, b] 2 = a.length + b.length := by show 0 + a.length + b.length = a.length + b.length; omega
      refine Ev.bind (tree_product_ev (l := [a, b]) (fun q hq => by
        rcases List.mem_cons.1 hq with rfl | hq
        · exact hU _ ha
        · rw [List.mem_singleton] at hq; rw [hq]; exact hU b hb) (show 2 < 4294967296 by decide) (by rw [show [a, b].length = 2 from rfl, ht1]; have := hl a ha; have := hl b hb; omega)) ?_
      simp -implicitDefEqProofs only [show o.length < 5864062014805 by omega, if_true]
      have h1 := ih (p ++ [a, b]) t (o ++ [pst [a, b] 2]) (by simp only [List.length_cons] at ht; omega) (by rw [hp]; simp) (by rw [List.length_append, List.length_append, List.length_singleton]; show o.length + 1 ≤ p.length + 2; omega)
      rw [List.length_append, show [a, b].length = 2 from rfl, List.append_assoc] at h1
      exact h1
theorem tree_above_ev {l : List (List Int)} (hU : ∀ p ∈ l, UL p) (hn : l.length < 4294967296) (hl : ∀ p ∈ l, p.length ≤ 100000) : Ev (fun k => tree_above.f k l) (abv l) := tree_above_go hU hn hl l.length [] l [] (Nat.le_refl _) rfl (Nat.le_refl _)

/-- A row of words, trimmed. -/
def TR (x : List Int) : Prop := UL x ∧ IsRow x (co x)
theorem TR_of {x : List Int} {f : Nat → F} (h : IsRow x f) : TR x := by
  refine ⟨?_, by rw [h.co]; exact h⟩
  obtain ⟨n, _, rfl⟩ := h
  exact UL_tr _ _
theorem row_len {x : List Int} {f : Nat → F} {m : Nat} (hx : IsRow x f) (h : ∀ i, m ≤ i → f i = 0) : x.length ≤ m := by
  obtain ⟨n, hn, rfl⟩ := hx
  rw [tr_length]
  rcases Nat.lt_or_ge m (dg n f) with c | c
  · exact absurd (h (dg n f - 1) (by omega)) (dg_last (by omega))
  · exact c
theorem pst_one_row (a : List Int) : IsRow (pst [a] 1) (co a) := by
  have h := pmul_any [1] a
  exact h.congr (fun i => by rw [pone_row.co]; exact pone_cvl _ _)
theorem pst_two_row (a b : List Int) : IsRow (pst [a, b] 2) (cvl (co a) (co b)) := by
  have h := pmul_any (pst [a] 1) b
  rw [(pst_one_row a).co] at h
  exact h
theorem pst_one_of {a : List Int} (h : TR a) : pst [a] 1 = a := (pst_one_row a).uniq h.2
theorem pst_two_eq (a b : List Int) : pst [a, b] 2 = pmul a b := (pst_two_row a b).uniq (pmul_any a b)
theorem pst_one_len (a : List Int) : (pst [a] 1).length ≤ a.length := row_len (pst_one_row a) (row_out a)
theorem pst_two_len (a b : List Int) : (pst [a, b] 2).length ≤ a.length + b.length := by rw [pst_two_eq]; exact pmul_length a b
/-- How many words the rows of a level have, together. -/
def sl : List (List Int) → Nat
  | [] => 0
  | p :: t => p.length + sl t
theorem sl_mem : ∀ {c : List (List Int)} {p : List Int}, p ∈ c → p.length ≤ sl c
  | [], _, h => by cases h
  | q :: t, p, h => by
    rcases List.mem_cons.1 h with rfl | h
    · exact Nat.le_add_right _ _
    · exact Nat.le_trans (sl_mem h) (Nat.le_add_left _ _)
theorem sl_abv : ∀ c : List (List Int), sl (abv c) ≤ sl c
  | [] => Nat.le_refl _
  | [a] => by
    have := pst_one_len a
    show (pst [a] 1).length + 0 ≤ a.length + 0
    omega
  | a :: b :: t => by
    have h1 := pst_two_len a b
    have h2 := sl_abv t
    show (pst [a, b] 2).length + sl (abv t) ≤ a.length + (b.length + sl t)
    omega
theorem abv_length : ∀ c : List (List Int), (abv c).length = (c.length + 1) / 2
  | [] => rfl
  | [a] => by show 1 = (0 + 1 + 1) / 2; decide
  | a :: b :: t => by
    have h := abv_length t
    show (abv t).length + 1 = (t.length + 1 + 1 + 1) / 2
    omega
theorem abv_TR : ∀ c : List (List Int), ∀ p ∈ abv c, TR p
  | [], p, h => by cases h
  | [a], p, h => by
    rw [show abv [a] = [pst [a] 1] from rfl, List.mem_singleton] at h
    rw [h]; exact TR_of (pst_one_row a)
  | a :: b :: t, p, h => by
    rcases List.mem_cons.1 h with h | h
    · rw [h]; exact TR_of (pst_two_row a b)
    · exact abv_TR t p h
/-- From one level on: it, and the levels above. -/
def lad : Nat → List (List Int) → List (List (List Int))
  | 0, c => [c]
  | n + 1, c => if 1 < c.length then c :: lad n (abv c) else [c]
theorem lad_cons (n : Nat) (c : List (List Int)) : lad n c = c :: (lad n c).tail := by
  cases n with
  | zero => rfl
  | succ n =>
    unfold lad
    by_cases h : 1 < c.length
    · rw [if_pos h]; rfl
    · rw [if_neg h]; rfl
def leaves (l : List Int) : List (List Int) := l.map fun x => [un (- cv x), 1]
theorem leaves_length (l : List Int) : (leaves l).length = l.length := List.length_map _
theorem leaf_row (a : F) : IsRow [un (-a), 1] (lin a) := by
  have e : [un (-a), 1] = tr 2 (lin a) := by
    unfold tr
    rw [dg_unique (n := 2) (m := 2) (Nat.le_refl _) (fun i h1 h2 => by omega) (fun _ => by
      have e : lin a (2 - 1) = 1 := by unfold lin; rw [if_neg (by omega), if_pos (by omega)]
      rw [e]; exact one_ne_zero)]
    rw [tab_succ, tab_succ, tab_nil]
    have e0 : lin a 0 = -a := by unfold lin; rw [if_pos rfl]
    have e1 : lin a (0 + 1) = 1 := by unfold lin; rw [if_neg (by omega), if_pos rfl]
    rw [e0, e1, un_one]; rfl
  rw [e]
  exact IsRow.of (fun i hi => lin_out a hi)
theorem leaves_TR (l : List Int) : ∀ p ∈ leaves l, TR p := fun p hp => by
  obtain ⟨x, _, rfl⟩ := List.mem_map.1 hp
  exact TR_of (leaf_row (cv x))
theorem leaves_sl : ∀ l : List Int, sl (leaves l) = 2 * l.length
  | [] => rfl
  | a :: t => by
    have h := leaves_sl t
    show 2 + sl (leaves t) = 2 * (t.length + 1)
    omega
theorem hk_lin_leaves {l : List Int} (h : UL l) : l.map hk_lin = leaves l := by
  unfold leaves
  refine List.map_congr_left (fun x hx => ?_)
  unfold hk_lin
  rw [gold_Neg_eq (h x hx)]; rfl
theorem tree_New_l1 : ∀ (n : Nat) (c : List (List Int)) (L : List (List (List Int))), c.length ≤ n → n + L.length ≤ 10000 → (∀ p ∈ c, UL p) → sl c ≤ 10000 → Ev (fun k => tree_New.l1 k c L) (L ++ (lad n c).tail)
  | 0, c, L, hn, _, _, _ => by
    refine Ev.step (fun k => tree_New.l1.eq_2 ..) ?_
    simp -implicitDefEqProofs only [show ¬ 1 < c.length by omega, if_false]
    rw [show (lad 0 c).tail = [] from rfl, List.append_nil]
    exact Ev.now _
  | n + 1, c, L, hn, hL, hU, hs => by
    refine Ev.step (fun k => tree_New.l1.eq_2 ..) ?_
    by_cases h : 1 < c.length
    · simp -implicitDefEqProofs only [h, if_true]
      have hA := tree_above_ev hU (by omega) (fun p hp => by have := sl_mem hp; omega)
      refine Ev.bind hA ?_
      simp -implicitDefEqProofs only [show L.length < 4294967296 by omega, if_true]
      have ih := tree_New_l1 n (abv c) (L ++ [abv c]) (by rw [abv_length]; omega) (by rw [List.length_append, List.length_singleton]; omega) (fun p hp => (abv_TR c p hp).1) (Nat.le_trans (sl_abv c) hs)
      have e : L ++ (lad (n + 1) c).tail = L ++ [abv c] ++ (lad n (abv c)).tail := by
        rw [List.append_assoc]
        congr 1
        rw [show lad (n + 1) c = c :: lad n (abv c) from if_pos h]
        exact lad_cons n (abv c)
      rw [e]
      exact ih
    · simp -implicitDefEqProofs only [h, if_false]
      have e : (lad (n + 1) c).tail = [] := by unfold lad; rw [if_neg h]; rfl
      rw [e, List.append_nil]
      exact Ev.now _
theorem tree_New_ev {l : List Int} (h : UL l) (h0 : 0 < l.length) (h1 : l.length ≤ 64) : Ev (fun k => tree_New.f k l) (lad l.length (leaves l)) := by
  unfold tree_New.f
  have ha : (l.all fun x => (gold_Of.f x).isSome && (gold_Neg.f x).isSome) = true := by
    rw [List.all_eq_true]
    intro x hx
    rw [gold_Of_eq (h x hx), gold_Neg_eq (h x hx)]; rfl
  simp -implicitDefEqProofs only [if_pos (show 0 < l.length ∧ l.length ≤ 4096 ∧ (l.all fun x => (gold_Of.f x).isSome && (gold_Neg.f x).isSome) = true from ⟨h0, by omega, ha⟩), hk_lin_leaves h]
  have := tree_New_l1 l.length (leaves l) [leaves l] (by rw [leaves_length]; exact Nat.le_refl _) (by rw [List.length_singleton]; omega) (fun p hp => (leaves_TR l p hp).1) (by rw [leaves_sl]; omega)
  rw [lad_cons l.length (leaves l)]
  exact this
/-- The points of the nodes, level by level. -/
def pabv : List (List F) → List (List F)
  | [] => []
  | [a] => [a]
  | a :: b :: t => (a ++ b) :: pabv t
def plad : Nat → List (List F) → List (List (List F))
  | 0, c => [c]
  | n + 1, c => if 1 < c.length then c :: plad n (pabv c) else [c]
theorem nrow_TR (zs : List F) : TR (nrow zs) := TR_of (nrow_row zs)
theorem abv_pabv : ∀ c : List (List F), abv (c.map nrow) = (pabv c).map nrow
  | [] => rfl
  | [a] => by
    show [pst [nrow a] 1] = [nrow a]
    rw [pst_one_of (nrow_TR a)]
  | a :: b :: t => by
    show pst [nrow a, nrow b] 2 :: abv (t.map nrow) = nrow (a ++ b) :: (pabv t).map nrow
    rw [pst_two_eq, nrow_two, abv_pabv t]
theorem lad_plad : ∀ (n : Nat) (c : List (List F)), lad n (c.map nrow) = (plad n c).map fun d => d.map nrow
  | 0, c => rfl
  | n + 1, c => by
    unfold lad plad
    rw [List.length_map]
    by_cases h : 1 < c.length
    · rw [if_pos h, if_pos h, abv_pabv, lad_plad n (pabv c)]; rfl
    · rw [if_neg h, if_neg h]; rfl
theorem pabv_length : ∀ c : List (List F), (pabv c).length = (c.length + 1) / 2
  | [] => rfl
  | [a] => by show 1 = (0 + 1 + 1) / 2; decide
  | a :: b :: t => by
    have h := pabv_length t
    show (pabv t).length + 1 = (t.length + 1 + 1 + 1) / 2
    omega
theorem pabv_flat : ∀ c : List (List F), (pabv c).flatten = c.flatten
  | [] => rfl
  | [a] => rfl
  | a :: b :: t => by
    show (a ++ b) ++ (pabv t).flatten = a ++ (b ++ t.flatten)
    rw [pabv_flat t, List.append_assoc]
/-- Of a node above: the two below it. -/
theorem pabv_at : ∀ (c : List (List F)) (j : Nat), 2 * j < c.length → (pabv c).getD j [] = c.getD (2 * j) [] ++ c.getD (2 * j + 1) []
  | [], j, h => by simp only [List.length_nil] at h; omega
  | [a], j, h => by
    simp only [List.length_cons, List.length_nil] at h
    obtain rfl : j = 0 := by omega
    show a = a ++ []
    rw [List.append_nil]
  | a :: b :: t, 0, _ => rfl
  | a :: b :: t, j + 1, h => by
    simp only [List.length_cons] at h
    have ih := pabv_at t j (by omega)
    show (pabv t).getD j [] = (a :: b :: t).getD (2 * (j + 1)) [] ++ (a :: b :: t).getD (2 * (j + 1) + 1) []
    rw [ih, show 2 * (j + 1) = 2 * j + 1 + 1 by omega]
    rfl
def pts (l : List Int) : List F := l.map cv
def sing (zs : List F) : List (List F) := zs.map fun z => [z]
theorem sing_flat : ∀ zs : List F, (sing zs).flatten = zs
  | [] => rfl
  | z :: zs => by
    show [z] ++ (sing zs).flatten = z :: zs
    rw [sing_flat zs]; rfl
theorem leaf_nrow (a : F) : [un (-a), 1] = nrow [a] := (leaf_row a).uniq ((nrow_row [a]).congr (fun i => by rw [fp_single]))
theorem leaves_nrow (l : List Int) : leaves l = (sing (pts l)).map nrow := by
  unfold leaves sing pts
  rw [List.map_map, List.map_map]
  exact List.map_congr_left (fun x _ => leaf_nrow (cv x))
/-- The tree of points. -/
def ptree (l : List Int) : List (List (List F)) := plad l.length (sing (pts l))
theorem lad_ptree (l : List Int) : lad l.length (leaves l) = (ptree l).map fun d => d.map nrow := by rw [leaves_nrow, lad_plad]; rfl
theorem plad_ne (n : Nat) (c : List (List F)) : 0 < (plad n c).length := by
  cases n with
  | zero => exact Nat.zero_lt_one
  | succ n =>
    unfold plad
    by_cases h : 1 < c.length
    · rw [if_pos h]; exact Nat.succ_pos _
    · rw [if_neg h]; exact Nat.zero_lt_one
theorem plad_len : ∀ (n : Nat) (c : List (List F)), (plad n c).length ≤ n + 1
  | 0, c => Nat.le_refl 1
  | n + 1, c => by
    unfold plad
    by_cases h : 1 < c.length
    · rw [if_pos h]; have := plad_len n (pabv c); simp only [List.length_cons]; omega
    · rw [if_neg h]; simp only [List.length_cons, List.length_nil]; omega
theorem plad_zero (n : Nat) (c : List (List F)) : (plad n c).getD 0 [] = c := by
  cases n with
  | zero => rfl
  | succ n =>
    unfold plad
    by_cases h : 1 < c.length
    · rw [if_pos h]; rfl
    · rw [if_neg h]; rfl
theorem plad_up : ∀ (n : Nat) (c : List (List F)) (k : Nat), k + 1 < (plad n c).length → (plad n c).getD (k + 1) [] = pabv ((plad n c).getD k [])
  | 0, c, k, h => by
    have : (plad 0 c).length = 1 := rfl
    omega
  | n + 1, c, k, h => by
    unfold plad at h ⊢
    by_cases g : 1 < c.length
    · rw [if_pos g] at h ⊢
      simp only [List.length_cons] at h
      cases k with
      | zero =>
        show (plad n (pabv c)).getD 0 [] = pabv c
        exact plad_zero _ _
      | succ k => exact plad_up n (pabv c) k (by omega)
    · rw [if_neg g] at h
      simp only [List.length_cons, List.length_nil] at h
      omega
theorem plad_more : ∀ (n : Nat) (c : List (List F)) (k : Nat), k + 1 < (plad n c).length → 1 < ((plad n c).getD k []).length
  | 0, c, k, h => by
    have : (plad 0 c).length = 1 := rfl
    omega
  | n + 1, c, k, h => by
    unfold plad at h ⊢
    by_cases g : 1 < c.length
    · rw [if_pos g] at h ⊢
      simp only [List.length_cons] at h
      cases k with
      | zero => exact g
      | succ k => exact plad_more n (pabv c) k (by omega)
    · rw [if_neg g] at h
      simp only [List.length_cons, List.length_nil] at h
      omega
theorem plad_last : ∀ (n : Nat) (c : List (List F)), 0 < c.length → c.length ≤ n + 1 → ((plad n c).getD ((plad n c).length - 1) []).length = 1
  | 0, c, h0, h1 => by
    show c.length = 1
    omega
  | n + 1, c, h0, h1 => by
    unfold plad
    by_cases g : 1 < c.length
    · rw [if_pos g]
      have ih := plad_last n (pabv c) (by rw [pabv_length]; omega) (by rw [pabv_length]; omega)
      have hn := plad_ne n (pabv c)
      rw [show (c :: plad n (pabv c)).length - 1 = (plad n (pabv c)).length - 1 + 1 by simp only [List.length_cons]; omega]
      exact ih
    · rw [if_neg g]
      show c.length = 1
      omega
theorem plad_flat : ∀ (n : Nat) (c : List (List F)) (k : Nat), k < (plad n c).length → ((plad n c).getD k []).flatten = c.flatten
  | n, c, 0, _ => by rw [plad_zero]
  | n, c, k + 1, h => by rw [plad_up n c k h, pabv_flat, plad_flat n c k (by omega)]
/-- What is known of a tree: T m is level m. -/
structure Tr (l : List Int) (T : List (List (List F))) : Prop where
  ne : 0 < T.length
  len : T.length ≤ l.length + 1
  zero : T.getD 0 [] = sing (pts l)
  up : ∀ k, k + 1 < T.length → T.getD (k + 1) [] = pabv (T.getD k [])
  more : ∀ k, k + 1 < T.length → 1 < (T.getD k []).length
  last : (T.getD (T.length - 1) []).length = 1
  flat : ∀ k, k < T.length → (T.getD k []).flatten = pts l
theorem ptree_Tr {l : List Int} (h : 0 < l.length) : Tr l (ptree l) where
  ne := plad_ne _ _
  len := plad_len _ _
  zero := plad_zero _ _
  up := plad_up _ _
  more := plad_more _ _
  last := plad_last _ _ (by unfold sing pts; rw [List.length_map, List.length_map]; exact h) (by unfold sing pts; rw [List.length_map, List.length_map]; omega)
  flat := fun k hk => by rw [← sing_flat (pts l)]; exact plad_flat _ _ k hk
/-- The last level is the product of all. -/
theorem Tr.top {l : List Int} {T : List (List (List F))} (h : Tr l T) : T.getD (T.length - 1) [] = [pts l] := by
  have h1 := h.last
  have h2 := h.flat (T.length - 1) (by have := h.ne; omega)
  generalize T.getD (T.length - 1) [] = c at h1 h2
  obtain ⟨a, rfl⟩ := List.length_eq_one_iff.1 h1
  rw [← h2]
  show [a] = [a ++ []]
  rw [List.append_nil]
theorem flat_len : ∀ (c : List (List F)) (a : List F), a ∈ c → a.length ≤ c.flatten.length
  | [], a, h => by cases h
  | b :: t, a, h => by
    rw [List.flatten_cons, List.length_append]
    rcases List.mem_cons.1 h with h | h
    · rw [h]; exact Nat.le_add_right _ _
    · exact Nat.le_trans (flat_len t a h) (Nat.le_add_left _ _)
theorem getD_mem' {α : Type} {c : List α} {j : Nat} (h : j < c.length) (d : α) : c.getD j d ∈ c := by
  rw [List.getD_eq_getElem?_getD, List.getElem?_eq_getElem h]; exact List.getElem_mem h
theorem pts_length (l : List Int) : (pts l).length = l.length := List.length_map _
/-- A node's row is short. -/
theorem Tr.short {l : List Int} {T : List (List (List F))} (h : Tr l T) {k j : Nat} (hk : k < T.length) (hj : j < (T.getD k []).length) : ((T.getD k []).getD j []).length ≤ l.length := by
  have h1 := flat_len _ _ (getD_mem' hj [])
  rw [h.flat k hk, pts_length] at h1
  exact h1
theorem map_getD {α β : Type} (f : α → β) (c : List α) {j : Nat} (h : j < c.length) (d : α) (e : β) : (c.map f).getD j e = f (c.getD j d) := by
  rw [List.getD_eq_getElem?_getD, List.getD_eq_getElem?_getD, List.getElem?_map, List.getElem?_eq_getElem h]; rfl
/-- The levels' rows. -/
def rowsOf (T : List (List (List F))) : List (List (List Int)) := T.map fun d => d.map nrow
theorem rowsOf_length (T : List (List (List F))) : (rowsOf T).length = T.length := List.length_map _
theorem rowsOf_at (T : List (List (List F))) (k : Nat) : (rowsOf T).getD k [] = (T.getD k []).map nrow := by
  unfold rowsOf
  by_cases h : k < T.length
  · exact map_getD _ T h [] []
  · rw [List.getD_eq_getElem?_getD, List.getElem?_eq_none (by rw [List.length_map]; omega), List.getD_eq_getElem?_getD, List.getElem?_eq_none (by omega)]; rfl
theorem rowsOf_node (T : List (List (List F))) (k : Nat) {j : Nat} (h : j < (T.getD k []).length) : ((rowsOf T).getD k []).getD j [] = nrow ((T.getD k []).getD j []) := by
  rw [rowsOf_at]; exact map_getD _ _ h [] []
theorem tree_New_rows {l : List Int} (h : UL l) (h0 : 0 < l.length) (h1 : l.length ≤ 64) : Ev (fun k => tree_New.f k l) (rowsOf (ptree l)) := by
  have := tree_New_ev h h0 h1
  rw [lad_ptree] at this
  exact this
theorem Tr.width {l : List Int} {T : List (List (List F))} (h : Tr l T) : ∀ k, k < T.length → (T.getD k []).length ≤ l.length
  | 0, _ => by rw [h.zero]; unfold sing pts; rw [List.length_map, List.length_map]; exact Nat.le_refl _
  | k + 1, hk => by
    have ih := h.width k (by omega)
    have := h.more k hk
    rw [h.up k hk, pabv_length]
    omega

theorem first_diff (a b : List Int) (n : Nat) : (∀ i, i < n → a.getD i 0 = b.getD i 0) ∨ ∃ m, m < n ∧ (∀ i, i < m → a.getD i 0 = b.getD i 0) ∧ a.getD m 0 ≠ b.getD m 0 := by
  induction n with
  | zero => exact .inl (fun i hi => by omega)
  | succ n ih =>
    rcases ih with h | ⟨m, hm, h1, h2⟩
    · by_cases c : a.getD n 0 = b.getD n 0
      · refine .inl (fun i hi => ?_)
        by_cases e : i = n
        · rw [e]; exact c
        · exact h i (by omega)
      · exact .inr ⟨n, by omega, h, c⟩
    · exact .inr ⟨m, by omega, h1, h2⟩
theorem same_of_getD {a b : List Int} (hl : a.length = b.length) (h : ∀ i, i < a.length → a.getD i 0 = b.getD i 0) : a = b := by
  apply List.ext_getElem hl
  intro i h1 h2
  have := h i h1
  rw [List.getD_eq_getElem?_getD, List.getD_eq_getElem?_getD, List.getElem?_eq_getElem h1, List.getElem?_eq_getElem h2] at this
  simpa using this
theorem abacistref04_Same_ev (a b : List Int) (ha : a.length < 4294967296) : Ev (fun k => abacistref04_Same.f k a b) (decide (a = b)) := by
  unfold abacistref04_Same.f
  by_cases hl : a.length = b.length
  · have c0 : (a.length : Int) = (b.length : Int) := by omega
    have round : ∀ i, i < a.length → a.getD i 0 = b.getD i 0 → ∀ r : Bool, Ev (fun k => abacistref04_Same.l0 k a b ((i + 1 : Nat) : Int)) r → Ev (fun k => abacistref04_Same.l0 k a b (i : Int)) r := by
      intro i hi he r ih
      refine Ev.step (fun k => abacistref04_Same.l0.eq_2 ..) ?_
      have c1 : (i : Int) < (a.length : Int) := by omega
      have c2 : (0 : Int) ≤ (i : Int) := by omega
      have c3 : (i : Int) < (b.length : Int) := by omega
      simp -implicitDefEqProofs only [c1, c2, c3, rd_nat, he, if_true, nat64_succ (show i < 9223372036854775807 by omega)]
      exact ih
    simp -implicitDefEqProofs only [c0, if_true]
    rcases first_diff a b a.length with h | ⟨m, hm, h1, h2⟩
    · rw [decide_eq_true (same_of_getD hl h)]
      refine Ev_loop a.length (fun k i => abacistref04_Same.l0 k a b (i : Int)) ?_ (fun i hi ih => round i hi (h i hi) _ ih) 0 (Nat.zero_le _)
      refine Ev.step (fun k => abacistref04_Same.l0.eq_2 ..) ?_
      simp -implicitDefEqProofs only [Int.lt_irrefl, if_false]
      exact Ev.now _
    · have hne : a ≠ b := fun e => h2 (by rw [e])
      rw [decide_eq_false hne]
      refine Ev_loop m (fun k i => abacistref04_Same.l0 k a b (i : Int)) ?_ (fun i hi ih => round i (by omega) (h1 i hi) _ ih) 0 (Nat.zero_le _)
      refine Ev.step (fun k => abacistref04_Same.l0.eq_2 ..) ?_
      have c1 : (m : Int) < (a.length : Int) := by omega
      have c2 : (0 : Int) ≤ (m : Int) := by omega
      have c3 : (m : Int) < (b.length : Int) := by omega
      simp -implicitDefEqProofs only [c1, c2, c3, rd_nat, h2, if_true, if_false]
      exact Ev.now _
  · have c0 : ¬ (a.length : Int) = (b.length : Int) := by omega
    have hne : a ≠ b := fun e => hl (by rw [e])
    simp -implicitDefEqProofs only [c0, if_false, decide_eq_false hne]
    exact Ev.now _
theorem abacistref04_Same_refl (a : List Int) (ha : a.length < 4294967296) : Ev (fun k => abacistref04_Same.f k a a) true := by
  have := abacistref04_Same_ev a a ha
  rw [decide_eq_true rfl] at this; exact this

theorem rd_L2_nat (L : List (List (List Int))) (i : Nat) : rd_L2 L (i : Int) = L.getD i [] := by unfold rd_L2; rw [Int.toNat_natCast]
theorem rd_L1_nat (L : List (List Int)) (i : Nat) : rd_L1 L (i : Int) = L.getD i [] := by unfold rd_L1; rw [Int.toNat_natCast]
/-- A node that is there. -/
theorem tree_Tree_Node_at {ps : List Int} {L : List (List (List Int))} {k i : Nat} (hk : k < L.length) (hi : i < (L.getD k []).length) (hl : ((L.getD k []).getD i []).length < 1000000) :
    tree_Tree_Node.f ps L (k : Int) (i : Int) = some ((L.getD k []).getD i [], 0) := by
  unfold tree_Tree_Node.f
  rw [if_neg (by omega), if_neg (by omega), if_neg (by omega), if_pos (by omega), if_pos (by omega), rd_L2_nat, if_neg (by omega), Option.bind_some, if_pos (by omega), if_pos (by omega), rd_L1_nat, if_pos (by rw [List.length_nil]; omega), List.nil_append]
/-- What is no node. -/
theorem tree_Tree_Node_out {ps : List Int} {L : List (List (List Int))} {k i : Int} (h : k < 0 ∨ (L.length : Int) ≤ k ∨ i < 0 ∨ ((L.getD k.toNat []).length : Int) ≤ i) :
    tree_Tree_Node.f ps L k i = some ([], 2) := by
  unfold tree_Tree_Node.f
  by_cases h1 : k < 0
  · rw [if_pos h1]
  · rw [if_neg h1]
    by_cases h2 : k ≥ (L.length : Int)
    · rw [if_pos h2]
    · rw [if_neg h2]
      by_cases h3 : i < 0
      · rw [if_pos h3]
      · rw [if_neg h3, if_pos (by omega), if_pos (by omega)]
        have h4 : i ≥ ((rd_L2 L k).length : Int) := by
          unfold rd_L2
          rcases h with h | h | h | h
          · omega
          · omega
          · omega
          · exact h
        rw [if_pos h4]

theorem tree_Tree_Top_at {ps : List Int} {L : List (List (List Int))} {n : Nat} (hn : L.length = n + 1) (h4 : n < 1000000) (hi : 0 < (L.getD n []).length) (hl : ((L.getD n []).getD 0 []).length < 1000000) :
    tree_Tree_Top.f ps L = some ((L.getD n []).getD 0 []) := by
  unfold tree_Tree_Top.f
  have e : wrap64 ((L.length : Int) - 1) = (n : Int) := by rw [wrap64_of (by omega) (by omega)]; omega
  have h0 := tree_Tree_Node_at (ps := ps) (L := L) (k := n) (i := 0) (by omega) hi hl
  rw [show ((0 : Nat) : Int) = 0 from rfl] at h0
  rw [e, h0, Option.bind_some]

theorem abacistlaw33_awake_ev : Ev (fun k => abacistlaw33_awake.f k) true := by
  unfold abacistlaw33_awake.f
  have hA := tree_New_ev (l := [1, 2]) (UL_cons U_one (UL_cons ⟨by decide, by decide⟩ UL_nil)) (by decide) (by decide)
  refine Ev.bind hA ?_
  have e : lad [1, 2].length (leaves [1, 2]) = [[[18446744069414584320, 1], [18446744069414584319, 1]], [[2, 18446744069414584318, 1]]] := by decide +kernel
  have hT := tree_Tree_Top_at (ps := hk_ofs [1, 2]) (L := lad [1, 2].length (leaves [1, 2])) (n := 1) (by rw [e]; rfl) (by decide) (by rw [e]; decide) (by rw [e]; decide)
  refine Ev.bind ⟨0, fun _ _ => hT⟩ ?_
  rw [e]
  exact abacistref04_Same_refl _ (by decide)

theorem abacistref02_Of_eq {a : Int} (h : 0 ≤ a) : abacistref02_Of.f a = some (un (cv a)) := by
  unfold abacistref02_Of.f
  rw [un_cv, Int.tmod_eq_emod_of_nonneg h]

theorem abacistref02_Sub_eq {a b : Int} (ha : 0 ≤ a) (hb : 0 ≤ b) : abacistref02_Sub.f a b = some (un (cv a - cv b)) := by
  unfold abacistref02_Sub.f
  rw [abacistref02_Of_eq ha, abacistref02_Of_eq hb]
  simp only [Option.bind_some]
  have h0 := un_lo (cv a); have h1 := un_hi (cv a); have h2 := un_lo (cv b); have h3 := un_hi (cv b)
  rw [un_sub]
  simp only [wu64]
  split <;> congr 1 <;> omega

theorem abacistref02_Add_eq {a b : Int} (ha : 0 ≤ a) (hb : 0 ≤ b) : abacistref02_Add.f a b = some (un (cv a + cv b)) := by
  unfold abacistref02_Add.f
  rw [abacistref02_Of_eq ha, abacistref02_Of_eq hb]
  simp only [Option.bind_some]
  have h0 := un_lo (cv a); have h1 := un_hi (cv a); have h2 := un_lo (cv b); have h3 := un_hi (cv b)
  rw [un_add]
  simp only [wu64]
  have e : (18446744069414584321 - un (cv b)) % 18446744073709551616 = 18446744069414584321 - un (cv b) := by omega
  rw [e]
  split <;> congr 1 <;> omega

theorem abacistref07_Trim_ev {l : List Int} (h : UL l) (hl : l.length < 4294967296) : Ev (fun k => abacistref07_Trim.f k l) (tr l.length (co l)) := by
  unfold abacistref07_Trim.f
  refine Ev_loop l.length (fun k i => abacistref07_Trim.l0 k l (dg i (co l) : Int) (i : Int)) ?_ (fun i hi ih => ?_) 0 (Nat.zero_le _)
  · refine Ev.step (fun k => abacistref07_Trim.l0.eq_2 ..) ?_
    simp -implicitDefEqProofs only [Int.lt_irrefl, if_false]
    have hd := dg_le l.length (co l)
    unfold tr
    generalize dg l.length (co l) = d at *
    refine Ev_loop d (fun k i => abacistref07_Trim.l1 k l (d : Int) (tab i (co l)) (i : Int)) ?_ (fun i hi ih => ?_) 0 (Nat.zero_le _)
    · refine Ev.step (fun k => abacistref07_Trim.l1.eq_2 ..) ?_
      simp -implicitDefEqProofs only [Int.lt_irrefl, if_false]
      exact Ev.now _
    · refine Ev.step (fun k => abacistref07_Trim.l1.eq_2 ..) ?_
      have c3 : (i : Int) < (d : Int) := by omega
      have c4 : (0 : Int) ≤ (i : Int) := by omega
      have c5 : i < 17592186044416 := by omega
      have c6 : (i : Int) < (l.length : Int) := by omega
      simp -implicitDefEqProofs only [c3, c4, c5, c6, tab_length, if_true, abacistref02_Of_eq (U_rd h _).1, Option.bind_some, cv_rd, ← tab_succ, nat64_succ (show i < 9223372036854775807 by omega)]
      exact ih
  · refine Ev.step (fun k => abacistref07_Trim.l0.eq_2 ..) ?_
    have c1 : (i : Int) < (l.length : Int) := by omega
    have c2 : (0 : Int) ≤ (i : Int) := by omega
    simp -implicitDefEqProofs only [c1, c2, if_true, abacistref02_Of_eq (U_rd h _).1, Option.bind_some, cv_rd, nat64_succ (show i < 9223372036854775807 by omega)]
    rw [show dg (i + 1) (co l) = if co l i = 0 then dg i (co l) else i + 1 from rfl] at ih
    by_cases c : co l i = 0
    · rw [if_pos c] at ih
      rw [c, un_zero]
      simp -implicitDefEqProofs only [if_true]
      exact ih
    · have c' : ¬ un (co l i) = 0 := fun h => c (un_eq_zero.1 h)
      rw [if_neg c] at ih
      simp -implicitDefEqProofs only [c', if_false]
      exact ih

theorem abacistref02_Mul_l0_ev : ∀ (m : Nat) (n : Nat) (x y : F), n < 2 ^ m → n < 18446744073709551616 → Ev (fun k => abacistref02_Mul.l0 k (un x) (n : Int) (un y)) (un (y + x * cv n))
  | 0, n, x, y, h, _ => by
    obtain rfl : n = 0 := by simpa using h
    refine Ev.step (f := fun _ => some (un y)) (fun k => ?_) ?_
    · simp only [abacistref02_Mul.l0]; rw [if_neg (by omega)]
    · have : y + x * cv ((0 : Nat) : Int) = y := by rw [show cv ((0 : Nat) : Int) = 0 from rfl]; grind
      rw [this]; exact Ev.now _
  | m + 1, n, x, y, h, hn => by
    have hm : n / 2 < 2 ^ m := by rw [Nat.pow_succ] at h; omega
    have e2 : IntKind.u64.wrap (Int.tdiv (n : Int) 2) = ((n / 2 : Nat) : Int) := by
      rw [Int.tdiv_eq_ediv_of_nonneg (by omega), wu64]; omega
    by_cases h0 : n = 0
    · subst h0
      refine Ev.step (f := fun _ => some (un y)) (fun k => ?_) ?_
      · simp only [abacistref02_Mul.l0]; rw [if_neg (by omega)]
      · have : y + x * cv ((0 : Nat) : Int) = y := by rw [show cv ((0 : Nat) : Int) = 0 from rfl]; grind
        rw [this]; exact Ev.now _
    · have em : Int.tmod (n : Int) 2 = (n : Int) % 2 := Int.tmod_eq_emod_of_nonneg (by omega)
      by_cases h1 : n % 2 = 1
      · refine Ev.step (f := fun k => abacistref02_Mul.l0 k (un (x + x)) ((n / 2 : Nat) : Int) (un (y + x))) (fun k => ?_) ?_
        · simp only [abacistref02_Mul.l0]
          rw [if_pos (by omega), em, if_pos (by omega), abacistref02_Add_eq (un_lo _) (un_lo _), abacistref02_Add_eq (un_lo _) (un_lo _), e2]
          simp only [Option.bind_some, cv_un]
        · have ih := abacistref02_Mul_l0_ev m (n / 2) (x + x) (y + x) hm (by omega)
          have e : y + x + (x + x) * cv ((n / 2 : Nat) : Int) = y + x * cv n := by
            have : (n : Int) = (1 + (((n / 2 : Nat) : Int) + ((n / 2 : Nat) : Int))) := by omega
            rw [this, cv_add, cv_add, cv_one]; grind
          rw [e] at ih; exact ih
      · refine Ev.step (f := fun k => abacistref02_Mul.l0 k (un (x + x)) ((n / 2 : Nat) : Int) (un y)) (fun k => ?_) ?_
        · simp only [abacistref02_Mul.l0]
          rw [if_pos (by omega), em, if_neg (by omega), abacistref02_Add_eq (un_lo _) (un_lo _), e2]
          simp only [Option.bind_some, cv_un]
        · have ih := abacistref02_Mul_l0_ev m (n / 2) (x + x) y hm (by omega)
          have e : y + (x + x) * cv ((n / 2 : Nat) : Int) = y + x * cv n := by
            have : (n : Int) = (((n / 2 : Nat) : Int) + ((n / 2 : Nat) : Int)) := by omega
            rw [this, cv_add]; grind
          rw [e] at ih; exact ih
theorem abacistref02_Mul_ev {a n : Int} (ha : 0 ≤ a) (hn : U n) : Ev (fun k => abacistref02_Mul.f k a n) (un (cv a * cv n)) := by
  have h := abacistref02_Mul_l0_ev 64 n.toNat (cv a) 0 (by have := hn.2; omega) (by have := hn.2; omega)
  rw [un_zero, Int.toNat_of_nonneg hn.1] at h
  have e : 0 + cv a * cv n = cv a * cv n := by grind
  rw [e] at h
  refine Ev.congr (fun k => ?_) h
  unfold abacistref02_Mul.f
  rw [abacistref02_Of_eq ha]; rfl

theorem abacistref07_get_eq (l : List Int) (i : Nat) : abacistref07_get.f l (i : Int) = some (l.getD i 0) := by
  unfold abacistref07_get.f
  rw [if_pos (show (i : Int) ≥ 0 by omega)]
  by_cases c : (i : Int) < (l.length : Int)
  · rw [if_pos c, if_pos (show (0 : Int) ≤ (i : Int) by omega), rd_nat]
  · rw [if_neg c, List.getD_eq_getElem?_getD, List.getElem?_eq_none (by omega)]; rfl
theorem abacistref07_get_neg (l : List Int) {a : Int} (h : a < 0) : abacistref07_get.f l a = some 0 := by
  unfold abacistref07_get.f
  rw [if_neg (by omega)]

theorem refmul_sum (f g : Nat → F) {n : Nat} (hf : ∀ i, n ≤ i → f i = 0) (j : Nat) : Sm n (fun i => if i ≤ j then f i * g (j - i) else 0) = cvl f g j := by
  unfold cvl
  by_cases h : n ≤ j + 1
  · rw [Sm_ext (f := fun i => f i * g (j - i)) h (fun i h1 h2 => by rw [hf i h1]; exact zm _)]
    exact Sm_congr (fun i hi => if_pos (by omega))
  · rw [Sm_ext (f := fun i => if i ≤ j then f i * g (j - i) else 0) (show j + 1 ≤ n by omega) (fun i h1 h2 => if_neg (by omega))]
    exact Sm_congr (fun i hi => if_pos (by omega))
where zm (a : F) : 0 * a = 0 := by grind
theorem abacistref07_Mul_ev {a b : List Int} (ha : UL a) (hb : UL b) (hl : a.length + b.length < 4294967296) : Ev (fun k => abacistref07_Mul.f k a b) (tr (a.length + b.length) (cvl (co a) (co b))) := by
  unfold abacistref07_Mul.f
  have hadd := add64 (a := a.length) (b := b.length) (by omega)
  refine Ev_loop (a.length + b.length) (fun k j => abacistref07_Mul.l0 k a b (tab j (cvl (co a) (co b))) (j : Int)) ?_ (fun j hj ihj => ?_) 0 (Nat.zero_le _)
  · refine Ev.step (fun k => abacistref07_Mul.l0.eq_2 ..) ?_
    simp -implicitDefEqProofs only [hadd, Int.lt_irrefl, if_false]
    refine Ev.bind (abacistref07_Trim_ev (UL_tab _ _) (by rw [tab_length]; exact hl)) ?_
    rw [tab_length, tr_congr (g := cvl (co a) (co b)) (fun i hi => co_tab_lt hi)]
    exact Ev.now _
  · refine Ev.step (fun k => abacistref07_Mul.l0.eq_2 ..) ?_
    have c1 : (j : Int) < ((a.length + b.length : Nat) : Int) := by omega
    simp -implicitDefEqProofs only [hadd, c1, if_true]
    refine Ev_loop a.length (fun k i => abacistref07_Mul.l1 k a b (tab j (cvl (co a) (co b))) (j : Int) (un (Sm i (fun i => if i ≤ j then co a i * co b (j - i) else 0))) (i : Int)) ?_ (fun i hi ih => ?_) 0 (Nat.zero_le _)
    · refine Ev.step (fun k => abacistref07_Mul.l1.eq_2 ..) ?_
      have c5 : j < 17592186044416 := by omega
      simp -implicitDefEqProofs only [Int.lt_irrefl, if_false, refmul_sum _ _ (fun i hi => co_out hi), tab_length, c5, if_true, ← tab_succ, nat64_succ (show j < 9223372036854775807 by omega)]
      exact ihj
    · refine Ev.step (fun k => abacistref07_Mul.l1.eq_2 ..) ?_
      have c2 : (i : Int) < (a.length : Int) := by omega
      have c3 : (0 : Int) ≤ (i : Int) := by omega
      have hg : abacistref07_get.f b (wrap64 ((j : Int) - (i : Int))) = some (if i ≤ j then b.getD (j - i) 0 else 0) := by
        by_cases c : i ≤ j
        · rw [sub64 c (by omega), abacistref07_get_eq, if_pos c]
        · rw [wrap64_of (by omega) (by omega), abacistref07_get_neg _ (by omega), if_neg c]
      have hu : U (if i ≤ j then b.getD (j - i) 0 else 0) := by
        split
        · exact U_getD hb _
        · exact U_zero
      simp -implicitDefEqProofs only [c2, c3, if_true, hg, Option.bind_some]
      refine Ev.bind (abacistref02_Mul_ev (U_rd ha _).1 hu) ?_
      have e : co a i * cv (if i ≤ j then b.getD (j - i) 0 else 0) = (if i ≤ j then co a i * co b (j - i) else 0) := by
        by_cases c : i ≤ j
        · rw [if_pos c, if_pos c]; rfl
        · rw [if_neg c, if_neg c, cv_zero]; exact mz _
      simp -implicitDefEqProofs only [abacistref02_Add_eq (un_lo _) (un_lo _), Option.bind_some, cv_un, cv_rd, e, nat64_succ (show i < 9223372036854775807 by omega)]
      exact ih
where mz (a : F) : a * 0 = 0 := by grind

end Go.Proofs.Ytkgakohgbbapaaa.BTreeNodes
