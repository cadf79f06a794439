/- What each function of the law TreeThrough answers, in the field's own words: plain contracts over the printed functions. -/
import Derived.Test.YtkgakohgbbapaaaPTreeThroughx0
import Derived.Test.YtkgakohgbbapaaaPTreeThroughx1
import Derived.Test.YtkgakohgbbapaaaPTreeThroughx2
import Derived.Test.YtkgakohgbbapaaaPTreeThroughx3
import Derived.Test.YtkgakohgbbapaaaPTreeThroughx4
import Derived.Test.YtkgakohgbbapaaaPTreeThroughx5
import Derived.Test.YtkgakohgbbapaaaPTreeThroughx6
import Derived.Test.YtkgakohgbbapaaaPTreeThroughx7
import Derived.Test.YtkgakohgbbapaaaPTreeThroughx8
import Derived.Test.YtkgakohgbbapaaaPTreeThroughx9
import Derived.Test.YtkgakohgbbapaaaPTreeThroughx10
import Derived.Test.YtkgakohgbbapaaaPTreeThroughx11
import Derived.Test.YtkgakohgbbapaaaPTreeThroughx12
import Derived.Test.YtkgakohgbbapaaaPTreeThroughx13
import Derived.Test.YtkgakohgbbapaaaPTreeThroughx14
import Derived.Test.YtkgakohgbbapaaaMTreeThrough
namespace Go.Proofs.Ytkgakohgbbapaaa.BTreeThrough
set_option linter.unusedVariables false
set_option linter.unusedSimpArgs false
open Go Go.RowKit Go.Proofs.Ytkgakohgbbapaaa.M Go.Proofs.Ytkgakohgbbapaaa.PTreeThrough Go.Proofs.YtkgakohgbbapaaaW.PrintWords Go.Proofs.YtkgakohgbbapaaaW.PrintLast Go.Proofs.YtkgakohgbbapaaaW.PrintMore
def U (a : Int) : Prop := 0 ≤ a ∧ a < 18446744073709551616
theorem U_un (x : F) : U (un x) := ⟨un_lo x, by have := un_hi x; omega⟩
theorem U_of_wf {a : Int} (h : (Lit.int .u64 a).wf = true) : U a := by
  simp [Lit.wf, IntKind.min, IntKind.max, IntKind.signed, IntKind.bits] at h
  exact ⟨by omega, by omega⟩
theorem wu64 (a : Int) : IntKind.u64.wrap a = a % 18446744073709551616 := by simp [IntKind.wrap, IntKind.bits, IntKind.signed]
theorem wu64_of {a : Int} (h : U a) : IntKind.u64.wrap a = a := by rw [wu64]; have := h.1; have := h.2; omega
theorem U_wrap (a : Int) : U (IntKind.u64.wrap a) := by rw [wu64]; exact ⟨by omega, by omega⟩
theorem and_low {a : Int} (h : U a) : Go.bits .and .u64 a 4294967295 = a % 4294967296 := by
  have := bits_mask .u64 64 (by decide) (fun n h0 h1 => by rw [wu64]; omega) 32 (by decide) a h.1 (by have := h.2; omega)
  simpa using this
theorem and_one {a : Int} (h : U a) : Go.bits .and .u64 a 1 = a % 2 := by
  have := bits_mask .u64 64 (by decide) (fun n h0 h1 => by rw [wu64]; omega) 1 (by decide) a h.1 (by have := h.2; omega)
  simpa using this
theorem wrap64_of {a : Int} (h0 : -9223372036854775808 ≤ a) (h1 : a < 9223372036854775808) : wrap64 a = a := by unfold wrap64; omega
/-- Rows of words. -/
def UL (l : List Int) : Prop := ∀ x ∈ l, U x
theorem UL_of_wf {l : List Int} (h : ∀ x ∈ l, (Lit.int .u64 x).wf = true) : UL l := fun x hx => U_of_wf (h x hx)
theorem U_zero : U 0 := ⟨by omega, by omega⟩
theorem U_one : U 1 := ⟨by omega, by omega⟩
theorem U_getD {l : List Int} (h : UL l) (i : Nat) : U (l.getD i 0) := by
  rw [List.getD_eq_getElem?_getD]
  by_cases hi : i < l.length
  · rw [List.getElem?_eq_getElem hi]; exact h _ (List.getElem_mem hi)
  · rw [List.getElem?_eq_none (by omega)]; exact U_zero
theorem U_rd {l : List Int} (h : UL l) (i : Int) : U (rd l i) := U_getD h _
theorem UL_tab (m : Nat) (f : Nat → F) : UL (tab m f) := by
  intro x hx
  unfold tab at hx
  obtain ⟨j, _, rfl⟩ := List.mem_map.1 hx
  exact U_un _
theorem UL_nil : UL [] := fun x hx => by cases hx
theorem rd_nat (l : List Int) (i : Nat) : rd l (i : Int) = l.getD i 0 := by unfold rd; rw [Int.toNat_natCast]
theorem cv_rd (l : List Int) (i : Nat) : cv (rd l (i : Int)) = co l i := by rw [rd_nat]; rfl
theorem rd_tab {m : Nat} {f : Nat → F} {i : Nat} (h : i < m) : rd (tab m f) (i : Int) = un (f i) := by rw [rd_nat, tab_getD m f i h]
theorem nat64_succ {i : Nat} (h : i < 9223372036854775807) : wrap64 ((i : Int) + 1) = ((i + 1 : Nat) : Int) := by unfold wrap64; omega
/-- A loop that counts up. -/
theorem Ev_loop {α : Type} {r : α} (n : Nat) (g : Nat → Nat → Option α) (last : Ev (fun k => g k n) r) (step : ∀ i, i < n → Ev (fun k => g k (i + 1)) r → Ev (fun k => g k i) r) (i : Nat) (hi : i ≤ n) : Ev (fun k => g k i) r := by
  have key : ∀ d i, i + d = n → Ev (fun k => g k i) r := by
    intro d
    induction d with
    | zero => intro i hi; obtain rfl : i = n := by omega
              exact last
    | succ d ih => intro i hi; exact step i (by omega) (ih (i + 1) (by omega))
  exact key (n - i) i (by omega)
/-- A loop that counts down. -/
theorem Ev_down {α : Type} {r : α} (n : Nat) (g : Nat → Nat → Option α) (last : Ev (fun k => g k 0) r) (step : ∀ i, i < n → Ev (fun k => g k i) r → Ev (fun k => g k (i + 1)) r) : Ev (fun k => g k n) r := by
  have key : ∀ i, i ≤ n → Ev (fun k => g k i) r := by
    intro i
    induction i with
    | zero => intro _; exact last
    | succ i ih => intro hi; exact step i (by omega) (ih (by omega))
  exact key n (Nat.le_refl n)
theorem down_at (i : Nat) : (((i + 1 : Nat) : Int) - 1) = (i : Int) := by omega
theorem down_next {i : Nat} (h : i < 9223372036854775807) : wrap64 ((i : Int) - 1) = (i : Int) - 1 := by unfold wrap64; omega
theorem len64 {n : Nat} (h : n < 9223372036854775807) : wrap64 ((n : Int) - 1) = (n : Int) - 1 := by unfold wrap64; omega
theorem U_nat {n : Nat} (h : n < 18446744073709551616) : U (n : Int) := ⟨Int.natCast_nonneg _, by omega⟩
theorem two_pow_lt {n m : Nat} (h : n ≤ m) : 2 ^ n ≤ 2 ^ m := Nat.pow_le_pow_right (by omega) h
theorem U_two_pow {n : Nat} (h : n ≤ 63) : U ((2 ^ n : Nat) : Int) := U_nat (by have := two_pow_lt h; omega)
theorem i64wrap (a : Int) : IntKind.i64.wrap a = wrap64 a := by rw [IntKind.wrap_i64]; unfold wrap64; rfl
theorem int_two_pow (n : Nat) : ((2 : Int) ^ n) = ((2 ^ n : Nat) : Int) := by simp
theorem shl_i64 {n : Nat} (h : n ≤ 62) : shl .i64 1 (IntKind.u64.wrap (n : Int)) = ((2 ^ n : Nat) : Int) := by
  have hu : IntKind.u64.wrap (n : Int) = (n : Int) := wu64_of ⟨by omega, by omega⟩
  unfold shl
  rw [hu, Int.toNat_natCast, Nat.min_eq_left (by rw [show IntKind.i64.bits = 64 from rfl]; omega), i64wrap, Int.one_mul, int_two_pow]
  have := two_pow_lt (n := n) (m := 62) h
  generalize 2 ^ n = q at *
  rw [wrap64_of (by omega) (by omega)]
theorem shl_u64 {n : Nat} (h : n ≤ 63) : shl .u64 1 (IntKind.u64.wrap (n : Int)) = ((2 ^ n : Nat) : Int) := by
  have hu : IntKind.u64.wrap (n : Int) = (n : Int) := wu64_of ⟨by omega, by omega⟩
  unfold shl
  rw [hu, Int.toNat_natCast, Nat.min_eq_left (by rw [show IntKind.u64.bits = 64 from rfl]; omega), Int.one_mul, int_two_pow]
  have := two_pow_lt (n := n) (m := 63) h
  generalize 2 ^ n = q at *
  exact wu64_of ⟨by omega, by omega⟩
theorem getD_take {l : List Int} {d i : Nat} (h : i < d) : (l.take d).getD i 0 = l.getD i 0 := by
  rw [List.getD_eq_getElem?_getD, List.getD_eq_getElem?_getD, List.getElem?_take, if_pos h]
theorem UL_take {l : List Int} (h : UL l) (d : Nat) : UL (l.take d) := fun x hx => h x (List.mem_of_mem_take hx)
theorem co_take {l : List Int} {d i : Nat} (h : i < d) : co (l.take d) i = co l i := by unfold co; rw [getD_take h]
theorem UL_tr (m : Nat) (f : Nat → F) : UL (tr m f) := UL_tab _ _
theorem add64 {a b : Nat} (h : a + b < 9223372036854775808) : wrap64 ((a : Int) + (b : Int)) = ((a + b : Nat) : Int) := by unfold wrap64; omega
theorem UL_cons {a : Int} {l : List Int} (h : U a) (hl : UL l) : UL (a :: l) := by
  intro x hx
  rcases List.mem_cons.1 hx with rfl | hx
  · exact h
  · exact hl x hx
theorem gold_Of_eq {a : Int} (h : U a) : gold_Of.f a = some (un (cv a)) := by
  unfold gold_Of.f
  rw [un_cv]
  have := h.1; have := h.2
  by_cases c : a ≥ 18446744069414584321
  · rw [if_pos c, wu64]; congr 1; omega
  · rw [if_neg c]; congr 1; omega

theorem gold_Neg_eq {a : Int} (h : U a) : gold_Neg.f a = some (un (- cv a)) := by
  unfold gold_Neg.f
  rw [gold_Of_eq h]
  simp only [Option.bind_some, un_neg, un_cv]
  by_cases c : a % 18446744069414584321 = 0
  · rw [if_pos c, c]; rfl
  · rw [if_neg c, wu64]; congr 1; omega

theorem poly_Degree_l0 {l : List Int} (h : UL l) (hl : l.length < 4294967296) : ∀ i, i ≤ l.length → Ev (fun k => poly_Degree.l0 k l ((i : Int) - 1)) ((dg i (co l) : Int) - 1) := by
  intro i
  induction i with
  | zero =>
    intro _
    refine Ev.step (fun k => poly_Degree.l0.eq_2 ..) ?_
    simp -implicitDefEqProofs only [show ¬ (((0 : Nat) : Int) - 1 ≥ 0) by omega, if_false]
    exact Ev.now _
  | succ i ih =>
    intro hi
    refine Ev.step (fun k => poly_Degree.l0.eq_2 ..) ?_
    have c1 : (i : Int) ≥ 0 := by omega
    have c2 : (i : Int) < (l.length : Int) := by omega
    rw [show dg (i + 1) (co l) = if co l i = 0 then dg i (co l) else i + 1 from rfl]
    simp -implicitDefEqProofs only [down_at, c1, c2, if_true, gold_Of_eq (U_rd h _), Option.bind_some, cv_rd, down_next (show i < 9223372036854775807 by omega)]
    by_cases c : co l i = 0
    · rw [if_pos c, c, un_zero]
      simp -implicitDefEqProofs only [if_true]
      exact ih (by omega)
    · have c' : ¬ un (co l i) = 0 := fun h => c (un_eq_zero.1 h)
      rw [if_neg c, down_at]
      simp -implicitDefEqProofs only [c', if_false]
      exact Ev.now _
theorem poly_Degree_ev {l : List Int} (h : UL l) (hl : l.length < 4294967296) : Ev (fun k => poly_Degree.f k l) ((dg l.length (co l) : Int) - 1) := by
  unfold poly_Degree.f
  rw [down_next (show l.length < 9223372036854775807 by omega)]
  exact poly_Degree_l0 h hl _ (Nat.le_refl _)

theorem poly_Trim_ev {l : List Int} (h : UL l) (hl : l.length < 4294967296) : Ev (fun k => poly_Trim.f k l) (tr l.length (co l)) := by
  unfold poly_Trim.f
  refine Ev.bind (poly_Degree_ev h hl) ?_
  have hd := dg_le l.length (co l)
  have e : wrap64 ((dg l.length (co l) : Int) - 1 + 1) = (dg l.length (co l) : Int) := by rw [wrap64_of (by omega) (by omega)]; omega
  have c1 : (0 : Int) ≤ (dg l.length (co l) : Int) := by omega
  have c2 : (dg l.length (co l) : Int) ≤ (l.length : Int) := by omega
  unfold tr
  generalize dg l.length (co l) = d at *
  have hlen : (l.take d).length = d := by rw [List.length_take]; omega
  simp -implicitDefEqProofs only [e, c1, c2, if_true, Int.toNat_natCast, hlen]
  refine Ev_loop d (fun k i => poly_Trim.l0 k (tab i (co l)) (l.take d) (d : Int) (i : Int)) ?_ (fun i hi ih => ?_) 0 (Nat.zero_le _)
  · refine Ev.step (fun k => poly_Trim.l0.eq_2 ..) ?_
    simp -implicitDefEqProofs only [Int.lt_irrefl, if_false]
    exact Ev.now _
  · refine Ev.step (fun k => poly_Trim.l0.eq_2 ..) ?_
    have c3 : (i : Int) < (d : Int) := by omega
    have c4 : (0 : Int) ≤ (i : Int) := by omega
    have c5 : i < 17592186044416 := by omega
    simp -implicitDefEqProofs only [c3, c4, c5, hlen, tab_length, if_true, gold_Of_eq (U_rd (UL_take h d) _), Option.bind_some, cv_rd, co_take hi, ← tab_succ, nat64_succ (show i < 9223372036854775807 by omega)]
    exact ih

theorem conv_exponent_from {n : Nat} (hn : n ≤ 524288) : ∀ d j : Nat, j + d = 19 → ∃ e : Nat, e ≤ 19 ∧ n ≤ 2 ^ e ∧ Ev (fun k => conv_exponent.l0 k (n : Int) (j : Int)) (e : Int)
  | d, j, h => by
    have hu : IntKind.u64.wrap (j : Int) = (j : Int) := wu64_of ⟨by omega, by omega⟩
    have hs := shl_i64 (n := j) (by omega)
    have hp := two_pow_lt (n := j) (m := 19) (by omega)
    by_cases c : 2 ^ j < n
    · cases d with
      | zero =>
        obtain rfl : j = 19 := by omega
        omega
      | succ d =>
        obtain ⟨e, h1, h2, h3⟩ := conv_exponent_from hn d (j + 1) (by omega)
        refine ⟨e, h1, h2, ?_⟩
        refine Ev.step (fun k => conv_exponent.l0.eq_2 ..) ?_
        have c2 : ((2 ^ j : Nat) : Int) < (n : Int) := Int.ofNat_lt.2 c
        rw [hs, hu]
        simp -implicitDefEqProofs only [show (0 : Int) ≤ (j : Int) by omega, c2, if_true, nat64_succ (show j < 9223372036854775807 by omega)]
        exact h3
    · refine ⟨j, by omega, by omega, ?_⟩
      refine Ev.step (fun k => conv_exponent.l0.eq_2 ..) ?_
      have c2 : ¬ ((2 ^ j : Nat) : Int) < (n : Int) := fun h => c (Int.ofNat_lt.1 h)
      rw [hs, hu]
      simp -implicitDefEqProofs only [show (0 : Int) ≤ (j : Int) by omega, c2, if_true, if_false]
      exact Ev.now _
theorem conv_exponent_ev {n : Nat} (hn : n ≤ 524288) : ∃ e : Nat, e ≤ 19 ∧ n ≤ 2 ^ e ∧ Ev (fun k => conv_exponent.f k (n : Int)) (e : Int) := conv_exponent_from hn 19 0 (by omega)

theorem slices_Clone_ev {l : List Int} (h : l.length ≤ 1048576) : Ev (fun k => slices_Clone_uint64_uint64.f k l) l := by
  unfold slices_Clone_uint64_uint64.f
  rw [if_pos h]
  exact Ev.now _

theorem gold_Reduce_eq {hi lo : Int} (h : U hi) (h2 : U lo) : gold_Reduce.f hi lo = some (un (cv (hi * 18446744073709551616 + lo))) := by
  have e0 := h.1; have e1 := h.2; have e2 := h2.1; have e3 := h2.2
  unfold gold_Reduce.f
  rw [and_low h]
  simp only [wu64]
  have top : hi = 4294967296 * (hi / 4294967296) + hi % 4294967296 := by omega
  generalize hi / 4294967296 = t at *
  generalize hm : hi % 4294967296 = m at *
  have hm0 : 0 ≤ m := by omega
  have hm1 : m < 4294967296 := by omega
  have ht0 : 0 ≤ t := by omega
  have ht1 : t < 4294967296 := by omega
  have e : m * 4294967295 % 18446744073709551616 = m * 4294967295 := by omega
  rw [e]
  by_cases c1 : lo < t
  · rw [if_pos c1]
    have a1 : (lo - t) % 18446744073709551616 = lo - t + 18446744073709551616 := by omega
    rw [a1]
    have a2 : (lo - t + 18446744073709551616 - 4294967295) % 18446744073709551616 = lo - t + 18446744073709551616 - 4294967295 := by omega
    rw [a2]
    by_cases c2 : (lo - t + 18446744073709551616 - 4294967295 + m * 4294967295) % 18446744073709551616 < m * 4294967295
    · have c3 : (lo - t + 18446744073709551616 - 4294967295 + m * 4294967295) % 18446744073709551616 = lo - t - 4294967295 + m * 4294967295 := by omega
      have c4 : (lo - t - 4294967295 + m * 4294967295 + 4294967295) % 18446744073709551616 = lo - t + m * 4294967295 := by omega
      rw [if_pos c2, c3, c4, gold_Of_eq ⟨by omega, by omega⟩]
      simp only [Option.bind_some, Option.some.injEq, un_inj_iff]
      exact cv_of_eq (-(t * 4294967297 + m)) (by omega)
    · have c3 : (lo - t + 18446744073709551616 - 4294967295 + m * 4294967295) % 18446744073709551616 = lo - t + 18446744073709551616 - 4294967295 + m * 4294967295 := by omega
      rw [if_neg c2, c3, gold_Of_eq ⟨by omega, by omega⟩]
      simp only [Option.bind_some, Option.some.injEq, un_inj_iff]
      exact cv_of_eq (-(t * 4294967297 + m) + 1) (by omega)
  · rw [if_neg c1]
    have a1 : (lo - t) % 18446744073709551616 = lo - t := by omega
    rw [a1]
    by_cases c2 : (lo - t + m * 4294967295) % 18446744073709551616 < m * 4294967295
    · have c3 : (lo - t + m * 4294967295) % 18446744073709551616 = lo - t + m * 4294967295 - 18446744073709551616 := by omega
      have c4 : (lo - t + m * 4294967295 - 18446744073709551616 + 4294967295) % 18446744073709551616 = lo - t + m * 4294967295 - 18446744069414584321 := by omega
      rw [if_pos c2, c3, c4, gold_Of_eq ⟨by omega, by omega⟩]
      simp only [Option.bind_some, Option.some.injEq, un_inj_iff]
      exact cv_of_eq (-(t * 4294967297 + m) - 1) (by omega)
    · have c3 : (lo - t + m * 4294967295) % 18446744073709551616 = lo - t + m * 4294967295 := by omega
      rw [if_neg c2, c3, gold_Of_eq ⟨by omega, by omega⟩]
      simp only [Option.bind_some, Option.some.injEq, un_inj_iff]
      exact cv_of_eq (-(t * 4294967297 + m)) (by omega)

theorem mul64_arith (a b : Int) (ha : U a) (hb : U b) :
    IntKind.u64.wrap ((IntKind.u64.wrap ((IntKind.u64.wrap ((a / 4294967296) * (b / 4294967296))) + ((IntKind.u64.wrap ((IntKind.u64.wrap ((a / 4294967296) * (b % 4294967296))) + ((IntKind.u64.wrap ((a % 4294967296) * (b % 4294967296))) / 4294967296))) / 4294967296))) + ((IntKind.u64.wrap ((Go.bits .and .u64 (IntKind.u64.wrap ((IntKind.u64.wrap ((a / 4294967296) * (b % 4294967296))) + ((IntKind.u64.wrap ((a % 4294967296) * (b % 4294967296))) / 4294967296))) 4294967295) + (IntKind.u64.wrap ((a % 4294967296) * (b / 4294967296))))) / 4294967296)) = a * b / 18446744073709551616 := by
  rw [and_low (U_wrap _)]
  simp only [wu64]
  have a0 := ha.1; have a1 := ha.2; have b0 := hb.1; have b1 := hb.2
  have ea : a = 4294967296 * (a / 4294967296) + a % 4294967296 := by omega
  have eb : b = 4294967296 * (b / 4294967296) + b % 4294967296 := by omega
  have x0 : 0 ≤ a / 4294967296 := by omega
  have x1 : a / 4294967296 ≤ 4294967295 := by omega
  have y0 : 0 ≤ b / 4294967296 := by omega
  have y1 : b / 4294967296 ≤ 4294967295 := by omega
  have u0 : 0 ≤ a % 4294967296 := by omega
  have u1 : a % 4294967296 ≤ 4294967295 := by omega
  have v0 : 0 ≤ b % 4294967296 := by omega
  have v1 : b % 4294967296 ≤ 4294967295 := by omega
  generalize a / 4294967296 = x at *
  generalize b / 4294967296 = y at *
  generalize a % 4294967296 = u at *
  generalize b % 4294967296 = v at *
  have key : ∀ p q : Int, 0 ≤ p → p ≤ 4294967295 → 0 ≤ q → q ≤ 4294967295 → 0 ≤ p * q ∧ p * q ≤ 18446744065119617025 := by
    intro p q p0 p1 q0 q1
    refine ⟨Int.mul_nonneg p0 q0, ?_⟩
    have := Int.mul_le_mul p1 q1 q0 (by omega)
    omega
  have hxy := key x y x0 x1 y0 y1
  have hxv := key x v x0 x1 v0 v1
  have huv := key u v u0 u1 v0 v1
  have huy := key u y u0 u1 y0 y1
  have eab : a * b = 18446744073709551616 * (x * y) + 4294967296 * (x * v) + 4294967296 * (u * y) + u * v := by
    rw [ea, eb]; grind
  rw [eab]
  generalize x * y = xy at *
  generalize x * v = xv at *
  generalize u * v = uv at *
  generalize u * y = uy at *
  clear ea eb eab key
  rw [Int.emod_eq_of_lt hxy.1 (by omega), Int.emod_eq_of_lt hxv.1 (by omega), Int.emod_eq_of_lt huv.1 (by omega), Int.emod_eq_of_lt huy.1 (by omega)]
  rw [Int.emod_eq_of_lt (a := xv + uv / 4294967296) (by omega) (by omega)]
  omega
theorem bits_Mul64_eq {a b : Int} (ha : U a) (hb : U b) : bits_Mul64.f a b = some (a * b / 18446744073709551616, a * b % 18446744073709551616) := by
  unfold bits_Mul64.f
  rw [and_low ha, and_low hb, mul64_arith a b ha hb, wu64]

theorem wide_Mul_eq {a b : Int} (ha : U a) (hb : U b) : wide_Mul.f a b = some (a * b / 18446744073709551616, a * b % 18446744073709551616) := by
  unfold wide_Mul.f
  rw [bits_Mul64_eq ha hb]; rfl
theorem U_wide {a b : Int} (ha : U a) (hb : U b) : U (a * b / 18446744073709551616) ∧ U (a * b % 18446744073709551616) := by
  have h0 := Int.mul_nonneg ha.1 hb.1
  have h1 : a * b ≤ 18446744073709551615 * 18446744073709551615 := Int.mul_le_mul (by have := ha.2; omega) (by have := hb.2; omega) hb.1 (by omega)
  generalize a * b = c at *
  exact ⟨⟨by omega, by omega⟩, ⟨by omega, by omega⟩⟩

theorem gold_Mul_eq {a b : Int} (ha : U a) (hb : U b) : gold_Mul.f a b = some (un (cv a * cv b)) := by
  unfold gold_Mul.f
  rw [wide_Mul_eq ha hb]
  simp only [Option.bind_some]
  rw [gold_Reduce_eq (U_wide ha hb).1 (U_wide ha hb).2]
  simp only [Option.bind_some, ← cv_mul]
  congr 3
  omega

theorem twid_Scale_ev {l : List Int} (h : UL l) (hl : l.length < 4294967296) {a : Int} (ha : U a) : Ev (fun k => twid_Scale.f k l a) (tab l.length (fun i => co l i * cv a)) := by
  unfold twid_Scale.f
  have d1 : (0 : Int) ≤ (l.length : Int) := by omega
  have d2 : l.length ≤ 35184372088832 := by omega
  simp -implicitDefEqProofs only [d1, d2, if_true, Int.toNat_natCast, replicate_tab]
  have e0 : tab l.length (fun _ => (0 : F)) = tab l.length (fun j => if j < 0 then co l j * cv a else 0) := tab_congr (fun j hj => by rw [if_neg (by omega)])
  rw [e0]
  refine Ev_loop l.length (fun k i => twid_Scale.l0 k a (tab l.length (fun j => if j < i then co l j * cv a else 0)) l (l.length : Int) (i : Int)) ?_ (fun i hi ih => ?_) 0 (Nat.zero_le _)
  · refine Ev.step (fun k => twid_Scale.l0.eq_2 ..) ?_
    simp -implicitDefEqProofs only [Int.lt_irrefl, if_false]
    rw [tab_congr (g := fun i => co l i * cv a) (fun i hi => by rw [if_pos hi])]
    exact Ev.now _
  · refine Ev.step (fun k => twid_Scale.l0.eq_2 ..) ?_
    have c1 : (i : Int) < (l.length : Int) := by omega
    have c2 : (0 : Int) ≤ (i : Int) := by omega
    simp -implicitDefEqProofs only [c1, c2, tab_length, if_true, gold_Mul_eq (U_rd h _) ha, Option.bind_some, cv_rd, Int.toNat_natCast, tab_set, nat64_succ (show i < 9223372036854775807 by omega)]
    have e : tab l.length (fun j => if j = i then co l i * cv a else if j < i then co l j * cv a else 0) = tab l.length (fun j => if j < i + 1 then co l j * cv a else 0) := by
      apply tab_congr
      intro j hj
      by_cases hji : j = i
      · subst hji; rw [if_pos rfl, if_pos (by omega)]
      · rw [if_neg hji]
        by_cases hh : j < i
        · rw [if_pos hh, if_pos (by omega)]
        · rw [if_neg hh, if_neg (by omega)]
    rw [e]
    exact ih

theorem bits_Add64_eq {a b c : Int} (ha : 0 ≤ a) (hb : 0 ≤ b) (h0 : 0 ≤ c) (h1 : c ≤ 1) : bits_Add64.f a b c = some ((a + b + c) % 18446744073709551616, (a + b + c) / 18446744073709551616) := by
  unfold bits_Add64.f
  rw [if_pos ha, if_pos hb, if_pos h0, if_pos h1]

theorem wide_Add_eq {a b c d : Int} (ha : U a) (hb : U b) (hc : U c) (hd : U d) :
    wide_Add.f a b c d = some ((a * 18446744073709551616 + b + (c * 18446744073709551616 + d)) / 18446744073709551616 % 18446744073709551616, (a * 18446744073709551616 + b + (c * 18446744073709551616 + d)) % 18446744073709551616, (a * 18446744073709551616 + b + (c * 18446744073709551616 + d)) / 340282366920938463463374607431768211456) := by
  have := ha.1; have := ha.2; have := hb.1; have := hb.2; have := hc.1; have := hc.2; have := hd.1; have := hd.2
  unfold wide_Add.f
  rw [bits_Add64_eq hb.1 hd.1 (by omega) (by omega)]
  simp only [Option.bind_some]
  rw [bits_Add64_eq ha.1 hc.1 (by omega) (by omega)]
  simp only [Option.bind_some, Option.some.injEq, Prod.mk.injEq]
  exact ⟨by omega, by omega, by omega⟩

theorem gold_Add_eq {a b : Int} (ha : U a) (hb : U b) : gold_Add.f a b = some (un (cv a + cv b)) := by
  unfold gold_Add.f
  rw [gold_Of_eq ha, gold_Of_eq hb]
  simp only [Option.bind_some]
  rw [wide_Add_eq ⟨by omega, by omega⟩ (U_un _) ⟨by omega, by omega⟩ (U_un _)]
  simp only [Option.bind_some]
  have h0 := un_lo (cv a); have h1 := un_hi (cv a); have h2 := un_lo (cv b); have h3 := un_hi (cv b)
  rw [gold_Reduce_eq ⟨by omega, by omega⟩ ⟨by omega, by omega⟩]
  simp only [Option.bind_some]
  have e : cv a + cv b = cv (un (cv a) + un (cv b)) := by rw [cv_add, cv_un, cv_un]
  rw [e]
  congr 2
  exact cv_of_eq 0 (by omega)

theorem gold_Sub_eq {a b : Int} (ha : U a) (hb : U b) : gold_Sub.f a b = some (un (cv a - cv b)) := by
  unfold gold_Sub.f
  rw [gold_Neg_eq hb]
  simp only [Option.bind_some]
  rw [gold_Add_eq ha (U_un _)]
  simp only [Option.bind_some, cv_un]
  congr 2; grind

theorem hk_crossO_eq {a b c d u : Int} (ha : U a) (hb : U b) (hc : U c) (hd : U d) (hu : U u) :
    hk_crossO a b c d u = some (un ((cv a + cv c) + (cv b + cv d)), un ((cv a - cv c) + cv u * (cv b - cv d)), un ((cv a + cv c) - (cv b + cv d)), un ((cv a - cv c) - cv u * (cv b - cv d))) := by
  unfold hk_crossO
  rw [gold_Add_eq ha hc, Option.bind_some, gold_Sub_eq ha hc, Option.bind_some, gold_Add_eq hb hd, Option.bind_some, gold_Sub_eq hb hd, Option.bind_some, gold_Mul_eq hu (U_un _), Option.bind_some, gold_Add_eq (U_un _) (U_un _), Option.bind_some, gold_Add_eq (U_un _) (U_un _), Option.bind_some, gold_Sub_eq (U_un _) (U_un _), Option.bind_some, gold_Sub_eq (U_un _) (U_un _), Option.bind_some]
  simp -implicitDefEqProofs only [cv_un]

/-- One crossing: what stands behind it. -/
theorem hk_qstep_eq {N n s i q : Nat} (hN : N = n * s) (h4 : n = 4 * (n / 4)) (hi : i < n / 4) (hq : q < s) {W u : F} (hu : u * u = -1) (pf : Nat → F) (pn : Nat) (hpn : N ≤ pn) (hpf : ∀ j, pf (j * s) = W ^ j) (x g0 : Nat → F) :
    hk_qstep (tab pn pf) (tab N x) (un u) n s s i q (tab N (q4 s (qx s (n / 4) W u x) g0 i q)) = some (tab N (q4 s (qx s (n / 4) W u x) g0 i (q + 1))) := by
  obtain ⟨h, hh⟩ : ∃ h, h = n / 4 := ⟨_, rfl⟩
  rw [← hh] at h4 hi ⊢
  have hs : 0 < s := by omega
  have lt : ∀ c, c < 4 → q + s * (i + c * h) < N := fun c hc => by
    have h1 : i + c * h + 1 ≤ 4 * h := by
      have : c * h ≤ 3 * h := Nat.mul_le_mul_right h (by omega)
      omega
    have h2 : s * (i + c * h + 1) ≤ s * (4 * h) := Nat.mul_le_mul_left s h1
    rw [hN, h4, Nat.mul_comm (4 * h) s]
    rw [Nat.mul_add s, Nat.mul_one] at h2
    omega
  have lp : ∀ c, c < 4 → c * i * s < pn := fun c hc => by
    have h1 : c * i ≤ 3 * i := Nat.mul_le_mul_right i (by omega)
    have h2 : c * i * s < 4 * h * s := Nat.mul_lt_mul_of_pos_right (by omega) hs
    rw [hN, h4] at hpn
    omega
  have cr := hk_crossO_eq (U_un (x (q + s * (i + 0 * h)))) (U_un (x (q + s * (i + 1 * h)))) (U_un (x (q + s * (i + 2 * h)))) (U_un (x (q + s * (i + 3 * h)))) (U_un u)
  simp -implicitDefEqProofs only [cv_un] at cr
  obtain ⟨z0, z1, z2, z3⟩ := q_cross (x (q + s * (i + 0 * h))) (x (q + s * (i + 1 * h))) (x (q + s * (i + 2 * h))) (x (q + s * (i + 3 * h))) u hu
  rw [z0, z1, z2, z3] at cr
  have tt : ∀ t, t < 4 → qx s h W u x (q + s * 4 * i + t * s) = (x (q + s * (i + 0 * h)) + x (q + s * (i + 1 * h)) * u ^ (1 * t) + x (q + s * (i + 2 * h)) * u ^ (2 * t) + x (q + s * (i + 3 * h)) * u ^ (3 * t)) * W ^ (t * i) := fun t ht => by
    rw [qx_at h W u x hq ht, Nat.zero_mul, Nat.one_mul h, Nat.add_zero]
  have m1 := tt 1 (by omega)
  have m2 := tt 2 (by omega)
  have m3 := tt 3 (by omega)
  have m0 := tt 0 (by omega)
  rw [show q + s * 4 * i + 0 * s = q + s * 4 * i by omega, Nat.zero_mul i, k1 W, k2] at m0
  rw [Nat.one_mul s] at m1
  have w1 : rd (tab pn pf) ((i * s : Nat) : Int) = un (W ^ (1 * i)) := by
    have := lp 1 (by omega)
    rw [Nat.one_mul] at this ⊢
    rw [rd_tab this, hpf]
  have w2 : rd (tab pn pf) ((2 * i * s : Nat) : Int) = un (W ^ (2 * i)) := by rw [rd_tab (lp 2 (by omega)), hpf]
  have w3 : rd (tab pn pf) ((3 * i * s : Nat) : Int) = un (W ^ (3 * i)) := by rw [rd_tab (lp 3 (by omega)), hpf]
  unfold hk_qstep
  rw [← hh, rd_tab (lt 0 (by omega)), rd_tab (lt 1 (by omega)), rd_tab (lt 2 (by omega)), rd_tab (lt 3 (by omega)), cr, w1, w2, w3, Option.bind_some]
  simp -implicitDefEqProofs only []
  rw [gold_Mul_eq (U_un _) (U_un _), Option.bind_some, gold_Mul_eq (U_un _) (U_un _), Option.bind_some, gold_Mul_eq (U_un _) (U_un _), Option.bind_some]
  simp -implicitDefEqProofs only [cv_un]
  rw [← m0, ← m1, ← m2, ← m3]
  congr 1
  exact q4_step hq (qx s h W u x) g0
where
  k1 {R : Nat} [NeZero R] (W : Fin R) : W ^ 0 = 1 := by grind
  k2 {R : Nat} [NeZero R] (a : Fin R) : a * 1 = a := by grind
theorem hk_qin_eq {N n s i : Nat} (hN : N = n * s) (h4 : n = 4 * (n / 4)) (hi : i < n / 4) {W u : F} (hu : u * u = -1) (pf : Nat → F) (pn : Nat) (hpn : N ≤ pn) (hpf : ∀ j, pf (j * s) = W ^ j) (x g0 : Nat → F) :
    ∀ q, q ≤ s → hk_qin (tab pn pf) (tab N x) (un u) n s s i (tab N (q4 s (qx s (n / 4) W u x) g0 i 0)) q = some (tab N (q4 s (qx s (n / 4) W u x) g0 i q))
  | 0, _ => rfl
  | q + 1, hq => by
    unfold hk_qin
    rw [hk_qin_eq hN h4 hi hu pf pn hpn hpf x g0 q (by omega), Option.bind_some]
    exact hk_qstep_eq hN h4 hi (by omega) hu pf pn hpn hpf x g0
theorem hk_qout_at {N n s : Nat} (hN : N = n * s) (hs : 0 < s) (h4 : n = 4 * (n / 4)) {W u : F} (hu : u * u = -1) (pf : Nat → F) (pn : Nat) (hpn : N ≤ pn) (hpf : ∀ j, pf (j * s) = W ^ j) (x g0 : Nat → F) :
    ∀ i, i ≤ n / 4 → hk_qout (tab pn pf) (tab N x) (un u) n s s (tab N g0) i = some (tab N (q4 s (qx s (n / 4) W u x) g0 i 0))
  | 0, _ => by
    unfold hk_qout
    exact congrArg some (tab_congr (fun p _ => (q4_zero s _ g0 p).symm))
  | i + 1, hi => by
    unfold hk_qout
    rw [hk_qout_at hN hs h4 hu pf pn hpn hpf x g0 i (by omega), Option.bind_some, hk_qin_eq hN h4 (by omega) hu pf pn hpn hpf x g0 s (Nat.le_refl _)]
    exact congrArg some (tab_congr (fun p _ => q4_next hs _ g0 i p))
theorem hk_qout_eq {N n s : Nat} (hN : N = n * s) (hs : 0 < s) (h4 : n = 4 * (n / 4)) {W u : F} (hu : u * u = -1) (pf : Nat → F) (pn : Nat) (hpn : N ≤ pn) (hpf : ∀ j, pf (j * s) = W ^ j) (x g0 : Nat → F) :
    hk_qout (tab pn pf) (tab N x) (un u) n s s (tab N g0) (n / 4) = some (tab N (qx s (n / 4) W u x)) := by
  rw [hk_qout_at hN hs h4 hu pf pn hpn hpf x g0 (n / 4) (Nat.le_refl _)]
  exact congrArg some (tab_congr (fun p hp => q4_end hs _ g0 (by rw [← h4, ← hN]; exact hp)))

/-- A last pass's target while the pass is at place q. -/
def h4v (s : Nat) (x g0 : Nat → F) (q p : Nat) : F := if p < q then x p + x (p + s) else if s ≤ p ∧ p < s + q then x (p - s) - x p else g0 p
theorem hk_hin_eq (s : Nat) (x g0 : Nat → F) : ∀ q, q ≤ s → hk_hin (tab (2 * s) x) s (tab (2 * s) g0) q = some (tab (2 * s) (h4v s x g0 q))
  | 0, _ => by
    unfold hk_hin
    refine congrArg some (tab_congr (fun p _ => ?_))
    unfold h4v
    rw [if_neg (by omega), if_neg (by omega)]
  | q + 1, hq => by
    unfold hk_hin
    rw [hk_hin_eq s x g0 q (by omega), Option.bind_some]
    unfold hk_hstep
    rw [rd_tab (show q < 2 * s by omega), rd_tab (show q + s < 2 * s by omega), gold_Add_eq (U_un _) (U_un _), Option.bind_some, gold_Sub_eq (U_un _) (U_un _), Option.bind_some, cv_un, cv_un, tab_set, tab_set]
    refine congrArg some (tab_congr (fun p _ => ?_))
    unfold h4v
    by_cases c1 : p = q + s
    · rw [if_pos c1, if_neg (by omega), if_pos (by omega), c1, Nat.add_sub_cancel]
    · rw [if_neg c1]
      by_cases c2 : p = q
      · rw [if_pos c2, if_pos (by omega), c2]
      · rw [if_neg c2]
        by_cases c3 : p < q
        · rw [if_pos c3, if_pos (by omega)]
        · rw [if_neg c3, if_neg (show ¬ p < q + 1 by omega)]
          by_cases c4 : s ≤ p ∧ p < s + q
          · rw [if_pos c4, if_pos (by omega)]
          · rw [if_neg c4, if_neg (by omega)]

theorem hk_k4s_eq {k : Nat} (hk : k ≤ 20) {d : Int} (hd : d = 0 ∨ d = 1) (x : Nat → F) : ∀ j, 2 * j ≤ k → ∃ g0 : Nat → F,
    hk_k4s (tab (2 ^ k) (fun i => dr k d ^ i)) (un (dr 2 d)) k (tab (2 ^ k) x) j = some (tab (2 ^ k) (qv k (dr k d) (dr 2 d) x j), tab (2 ^ k) g0)
  | 0, _ => ⟨fun _ => 0, by unfold hk_k4s; rw [tab_length, replicate_tab]; rfl⟩
  | j + 1, hj => by
    obtain ⟨g0, e⟩ := hk_k4s_eq hk hd x j (by omega)
    refine ⟨qv k (dr k d) (dr 2 d) x j, ?_⟩
    unfold hk_k4s
    rw [e, Option.bind_some]
    simp -implicitDefEqProofs only [tab_length]
    have hs : 0 < 4 ^ j := Nat.pow_pos (by omega)
    have hn : 0 < 2 ^ (k - 2 * j) := Nat.two_pow_pos _
    have hN : 2 ^ k = 2 ^ (k - 2 * j) * 4 ^ j := by rw [four_pow, ← Nat.pow_add]; congr 1; omega
    have hst : 2 ^ k / 2 ^ (k - 2 * j) = 4 ^ j := by rw [hN, Nat.mul_div_cancel_left _ hn]
    have h4 : 2 ^ (k - 2 * j) = 4 * (2 ^ (k - 2 * j) / 4) := by
      rw [two_quarter (k := k) (j := j) hj, Nat.mul_div_cancel_left _ (by omega)]
    rw [hst, hk_qout_eq hN hs h4 (dr_two_sq hd) (fun i => dr k d ^ i) (2 ^ k) (Nat.le_refl _) (W := dr k d ^ 4 ^ j) (fun i => by rw [Nat.mul_comm, pow_mul'])]
    rfl
theorem hk_k4r_eq {k : Nat} (hk : k ≤ 20) {d : Int} (hd : d = 0 ∨ d = 1) (x : Nat → F) :
    hk_k4r (tab (2 ^ k) (fun i => dr k d ^ i)) (un (dr 2 d)) k (tab (2 ^ k) x) = some (tab (2 ^ k) (fun p => dft (2 ^ k) (dr k d) x p)) := by
  have key : ∀ q, q < 4 ^ (k / 2) → ∀ p, dft (2 ^ k) (dr k d) x (q + 4 ^ (k / 2) * p) = Sm (2 ^ (k - 2 * (k / 2))) (fun m => qv k (dr k d) (dr 2 d) x (k / 2) (q + 4 ^ (k / 2) * m) * (dr k d ^ 4 ^ (k / 2)) ^ (m * p)) := fun q hq p => by
    by_cases h2 : 2 ≤ k
    · rw [← qv_sum (dr k d) (dr 2 d) (dr_drop (by omega) h2 hd) (u4_of (dr_two_sq hd)) x (k / 2) (by omega) q hq p]
      unfold dft
      exact Sm_congr (fun m _ => by rw [← pow_mul', Nat.mul_comm m])
    · have e : k / 2 = 0 := by omega
      rw [e] at hq ⊢
      obtain rfl : q = 0 := by rw [Nat.pow_zero] at hq; omega
      unfold dft
      refine Sm_congr (fun m _ => ?_)
      show x m * (dr k d ^ (0 + 1 * p)) ^ m = x (0 + 1 * m) * (dr k d ^ 1) ^ (m * p)
      rw [Nat.zero_add, Nat.zero_add, Nat.one_mul, Nat.one_mul, k1 (dr k d), ← pow_mul', Nat.mul_comm m]
  obtain ⟨g0, e⟩ := hk_k4s_eq hk hd x (k / 2) (by omega)
  unfold hk_k4r
  rw [e, Option.bind_some]
  have hs : 0 < 4 ^ (k / 2) := Nat.pow_pos (by omega)
  rcases Nat.mod_two_eq_zero_or_one k with h0 | h1
  · rw [if_neg (by omega)]
    have hN : 2 ^ k = 4 ^ (k / 2) := by rw [four_pow]; congr 1; omega
    refine congrArg some (tab_congr (fun p hp => ?_))
    have := key p (by omega) 0
    rw [Nat.mul_zero, Nat.add_zero, show k - 2 * (k / 2) = 0 by omega] at this
    rw [this]
    show _ = 0 + qv k (dr k d) (dr 2 d) x (k / 2) (p + 4 ^ (k / 2) * 0) * (dr k d ^ 4 ^ (k / 2)) ^ (0 * 0)
    rw [Nat.mul_zero, Nat.add_zero, Nat.mul_zero]
    exact k2 _ _
  · rw [if_pos h1]
    have hN : 2 ^ k = 2 * 4 ^ (k / 2) := by
      rw [four_pow, show 2 * 2 ^ (2 * (k / 2)) = 2 ^ (2 * (k / 2) + 1) by rw [Nat.pow_succ]; omega]; congr 1; omega
    have hw : dr k d ^ 4 ^ (k / 2) = -1 := by
      rw [four_pow, show 2 * (k / 2) = k - 1 by omega]
      exact dr_half4 (by omega) (by omega) hd
    rw [hw] at key
    rw [show k - 2 * (k / 2) = 1 by omega] at key
    generalize 4 ^ (k / 2) = s at *
    rw [hN, hk_hin_eq s _ g0 s (Nat.le_refl _), ← hN]
    refine congrArg some (tab_congr (fun p hp => ?_))
    unfold h4v
    by_cases c : p < s
    · have := key p c 0
      rw [Nat.mul_zero, Nat.add_zero] at this
      rw [if_pos c, this]
      show _ = 0 + qv k (dr k d) (dr 2 d) x (k / 2) (p + s * 0) * (-1) ^ (0 * 0) + qv k (dr k d) (dr 2 d) x (k / 2) (p + s * 1) * (-1) ^ (1 * 0)
      rw [Nat.mul_zero, Nat.add_zero, Nat.mul_one, Nat.mul_zero]
      exact k3 _ _
    · have := key (p - s) (by omega) 1
      rw [Nat.mul_one, show p - s + s = p by omega] at this
      rw [if_neg c, if_pos (by omega), this]
      show _ = 0 + qv k (dr k d) (dr 2 d) x (k / 2) (p - s + s * 0) * (-1) ^ (0 * 1) + qv k (dr k d) (dr 2 d) x (k / 2) (p - s + s * 1) * (-1) ^ (1 * 1)
      rw [Nat.mul_zero, Nat.add_zero, Nat.mul_one s, show p - s + s = p by omega, Nat.zero_mul, Nat.mul_one]
      exact k4 _ _
where
  k1 {R : Nat} [NeZero R] (w : Fin R) : w ^ 1 = w := by grind
  k2 {R : Nat} [NeZero R] (a w : Fin R) : a = 0 + a * w ^ 0 := by grind
  k3 {R : Nat} [NeZero R] (a b : Fin R) : a + b = 0 + a * (-1) ^ 0 + b * (-1) ^ 0 := by grind
  k4 {R : Nat} [NeZero R] (a b : Fin R) : a - b = 0 + a * (-1) ^ 0 + b * (-1) ^ 1 := by grind

theorem scale_one {k : Nat} {l : List Int} (hl : l.length = 2 ^ k) : tab l.length (fun i => co l i * cv 1) = tab (2 ^ k) (co l) := by
  rw [hl]
  exact tab_congr (fun i _ => by rw [cv_one]; exact kk _)
where kk {R : Nat} [NeZero R] (a : Fin R) : a * 1 = a := by grind
theorem gold_Pow_l0_ev : ∀ (m : Nat) (n : Nat) (x y : F), n < 2 ^ m → n < 18446744073709551616 → Ev (fun k => gold_Pow.l0 k (n : Int) (un x) (un y)) (un (x * y ^ n))
  | 0, n, x, y, h, _ => by
    obtain rfl : n = 0 := by simpa using h
    refine Ev.step (f := fun _ => some (un x)) (fun k => ?_) ?_
    · simp only [gold_Pow.l0]; rw [if_neg (by omega)]
    · have : x * y ^ 0 = x := by grind
      rw [this]; exact Ev.now _
  | m + 1, n, x, y, h, hn => by
    have hm : n / 2 < 2 ^ m := by rw [Nat.pow_succ] at h; omega
    have e2 : ((n : Int) / 2) = ((n / 2 : Nat) : Int) := by omega
    by_cases h0 : n = 0
    · subst h0
      refine Ev.step (f := fun _ => some (un x)) (fun k => ?_) ?_
      · simp only [gold_Pow.l0]; rw [if_neg (by omega)]
      · have : x * y ^ 0 = x := by grind
        rw [this]; exact Ev.now _
    · have hU : U (n : Int) := ⟨by omega, by omega⟩
      by_cases h1 : n % 2 = 1
      · refine Ev.step (f := fun k => gold_Pow.l0 k ((n / 2 : Nat) : Int) (un (x * y)) (un (y * y))) (fun k => ?_) ?_
        · simp only [gold_Pow.l0]
          rw [if_pos (by omega), and_one hU, if_pos (by omega), gold_Mul_eq (U_un _) (U_un _), gold_Mul_eq (U_un _) (U_un _), e2]
          simp only [Option.bind_some, cv_un]
        · have ih := gold_Pow_l0_ev m (n / 2) (x * y) (y * y) hm (by omega)
          have e : x * y * (y * y) ^ (n / 2) = x * y ^ n := by
            have : n = 2 * (n / 2) + 1 := by omega
            rw [show y * y = y ^ 2 by grind, ← pow_mul']
            rw [show x * y * y ^ (2 * (n / 2)) = x * y ^ (2 * (n / 2) + 1) by grind, ← this]
          rw [e] at ih; exact ih
      · refine Ev.step (f := fun k => gold_Pow.l0 k ((n / 2 : Nat) : Int) (un x) (un (y * y))) (fun k => ?_) ?_
        · simp only [gold_Pow.l0]
          rw [if_pos (by omega), and_one hU, if_neg (by omega), gold_Mul_eq (U_un _) (U_un _), e2]
          simp only [Option.bind_some, cv_un]
        · have ih := gold_Pow_l0_ev m (n / 2) x (y * y) hm (by omega)
          have e : x * (y * y) ^ (n / 2) = x * y ^ n := by
            have : n = 2 * (n / 2) := by omega
            rw [show y * y = y ^ 2 by grind, ← pow_mul', ← this]
          rw [e] at ih; exact ih
theorem gold_Pow_ev {a n : Int} (ha : U a) (hn : U n) : Ev (fun k => gold_Pow.f k a n) (un (cv a ^ n.toNat)) := by
  have h := gold_Pow_l0_ev 64 n.toNat 1 (cv a) (by have := hn.2; omega) (by have := hn.2; omega)
  rw [un_one, Int.toNat_of_nonneg hn.1] at h
  have e : 1 * cv a ^ n.toNat = cv a ^ n.toNat := by grind
  rw [e] at h
  refine Ev.congr (fun k => ?_) h
  unfold gold_Pow.f
  rw [gold_Of_eq ha]; rfl

def erz (x : F) : Int := if x = 0 then 13 else 0
theorem erz_ne {x : F} (h : x ≠ 0) : erz x = 0 := if_neg h
theorem erz_zero : erz 0 = 13 := if_pos rfl
theorem gold_Inv_ev {a : Int} (h : U a) : Ev (fun k => gold_Inv.f k a) (un (inv (cv a)), erz (cv a)) := by
  unfold gold_Inv.f
  rw [gold_Of_eq h]
  simp -implicitDefEqProofs only [Option.bind_some]
  by_cases c : cv a = 0
  · have c' : un (cv a) = 0 := un_eq_zero.2 c
    simp -implicitDefEqProofs only [c', if_true]
    rw [c, inv_zero, erz_zero, un_zero]; exact Ev.now _
  · have c' : ¬ un (cv a) = 0 := fun h => c (un_eq_zero.1 h)
    simp -implicitDefEqProofs only [c', if_false, erz_ne c]
    refine Ev.bind (gold_Pow_ev h ⟨by omega, by omega⟩) ?_
    exact Ev.now _

theorem twid_Share_ev {k : Nat} (hk : k ≤ 32) : Ev (fun n => twid_Share.f n (k : Int)) (un (sh k), 0) := by
  unfold twid_Share.f
  have c : (0 : Int) ≤ IntKind.u64.wrap (k : Int) := (U_wrap _).1
  simp -implicitDefEqProofs only [show ¬ (k : Int) < 0 by omega, show ¬ (k : Int) > 32 by omega, if_false, c, if_true, shl_u64 (show k ≤ 63 by omega)]
  have h := gold_Inv_ev (U_two_pow (n := k) (by omega))
  rw [erz_ne (two_pow_ne hk)] at h
  refine Ev.bind h ?_
  exact Ev.now _
theorem root_good_yes {a : Int} (h0 : 0 ≤ a) (h1 : a ≤ 32) : root_good.f a = some true := by
  unfold root_good.f; rw [if_pos h0, decide_eq_true h1]
theorem shr_word {k : Nat} (hk : k ≤ 32) : shr .u64 18446744069414584320 (IntKind.u64.wrap (k : Int)) = ((18446744069414584320 / 2 ^ k : Nat) : Int) := by
  unfold shr
  rw [wu64_of ⟨by omega, by omega⟩, Int.toNat_natCast, Nat.min_eq_left (by rw [show IntKind.u64.bits = 64 from rfl]; omega)]
  rw [Int.natCast_ediv]; congr 1
theorem root_root_ev {k : Nat} (hk : k ≤ 32) : Ev (fun n => root_root.f n (k : Int)) (un (rt k)) := by
  unfold root_root.f
  have c : (0 : Int) ≤ IntKind.u64.wrap (k : Int) := (U_wrap _).1
  have hp : 18446744069414584320 / 2 ^ k ≤ 18446744069414584320 := Nat.div_le_self _ _
  simp -implicitDefEqProofs only [c, if_true, shr_word hk]
  have hu : U ((18446744069414584320 / 2 ^ k : Nat) : Int) := by
    generalize 18446744069414584320 / 2 ^ k = q at *
    exact ⟨by omega, by omega⟩
  refine Ev.bind (gold_Pow_ev ⟨by omega, by omega⟩ hu) ?_
  rw [Int.toNat_natCast]
  exact Ev.now _

theorem root_Root_ev {k : Nat} (hk : k ≤ 32) : Ev (fun n => root_Root.f n (k : Int)) (un (rt k), 0) := by
  unfold root_Root.f
  rw [root_good_yes (by omega) (by omega)]
  simp -implicitDefEqProofs only [Option.bind_some, if_true]
  exact Ev.bind (root_root_ev hk) (Ev.now _)
theorem root_Back_ev {k : Nat} (hk : k ≤ 32) : Ev (fun n => root_Back.f n (k : Int)) (un (inv (rt k)), 0) := by
  unfold root_Back.f
  rw [root_good_yes (by omega) (by omega)]
  simp -implicitDefEqProofs only [Option.bind_some, if_true]
  refine Ev.bind (root_root_ev hk) ?_
  have h := gold_Inv_ev (U_un (rt k))
  rw [cv_un, erz_ne (rt_ne_zero k)] at h
  refine Ev.bind h ?_
  exact Ev.now _
theorem twid_Root_ev {k : Nat} (hk : k ≤ 32) {d : Int} (hd : d = 0 ∨ d = 1) : Ev (fun n => twid_Root.f n (k : Int) d) (un (dr k d), 0) := by
  unfold twid_Root.f
  simp -implicitDefEqProofs only [show ¬ (k : Int) < 0 by omega, if_false, decide_eq_false (show ¬ (k : Int) > 32 by omega)]
  refine Ev.step (fun n => twid_Root.j0.eq_2 ..) ?_
  rcases hd with rfl | rfl
  · simp -implicitDefEqProofs only [show ¬ (false = true) by decide, if_false, if_true]
    refine Ev.bind (root_Root_ev hk) ?_
    rw [dr_fwd]; exact Ev.now _
  · simp -implicitDefEqProofs only [show ¬ (false = true) by decide, if_false, if_true, show ¬ (1 : Int) = 0 by omega]
    refine Ev.bind (root_Back_ev hk) ?_
    rw [dr_inv]; exact Ev.now _
theorem root_Powers_ev {w : Int} (hw : U w) {n : Nat} (hn : n ≤ 1048576) : Ev (fun k => root_Powers.f k w (n : Int)) (tab n (fun i => cv w ^ i), 0) := by
  unfold root_Powers.f
  have c1 : ¬ ((n : Int) < 0) := by omega
  have c2 : decide ((n : Int) > 1048576) = false := decide_eq_false (by omega)
  simp -implicitDefEqProofs only [c1, c2, if_false]
  refine Ev.step (fun k => root_Powers.j0.eq_2 ..) ?_
  have c3 : (0 : Int) ≤ (n : Int) := by omega
  have c4 : n ≤ 35184372088832 := by omega
  simp -implicitDefEqProofs only [c3, c4, Int.toNat_natCast, if_true, if_false, show ¬ (false = true) by decide, Option.bind_some, replicate_tab, tab_length]
  have e0 : tab n (fun _ => (0 : F)) = tab n (fun j => if j < 0 then cv w ^ j else 0) := tab_congr (fun j hj => by rw [if_neg (by omega)])
  have e1 : (1 : Int) = un (cv w ^ 0) := by rw [show cv w ^ 0 = 1 by grind, un_one]
  rw [e0, e1]
  refine Ev_loop n (fun k i => root_Powers.l0 k w (tab n (fun j => if j < i then cv w ^ j else 0)) (un (cv w ^ i)) (n : Int) (i : Int)) ?_ (fun i hi ih => ?_) 0 (Nat.zero_le _)
  · refine Ev.step (fun k => root_Powers.l0.eq_2 ..) ?_
    simp -implicitDefEqProofs only [Int.lt_irrefl, if_false]
    have e : tab n (fun j => if j < n then cv w ^ j else 0) = tab n (fun i => cv w ^ i) := tab_congr (fun j hj => by rw [if_pos hj])
    rw [e]
    exact Ev.now _
  · refine Ev.step (fun k => root_Powers.l0.eq_2 ..) ?_
    have c1 : (i : Int) < (n : Int) := by omega
    have c2 : (0 : Int) ≤ (i : Int) := by omega
    have es : cv w ^ i * cv w = cv w ^ (i + 1) := by grind
    simp -implicitDefEqProofs only [c1, c2, tab_length, if_true, gold_Mul_eq (U_un _) hw, Option.bind_some, cv_un, Int.toNat_natCast, tab_set, es, nat64_succ (show i < 9223372036854775807 by omega)]
    have e : tab n (fun j => if j = i then cv w ^ i else if j < i then cv w ^ j else 0) = tab n (fun j => if j < i + 1 then cv w ^ j else 0) := by
      apply tab_congr
      intro j hj
      by_cases hji : j = i
      · subst hji; rw [if_pos rfl, if_pos (by omega)]
      · rw [if_neg hji]
        by_cases hh : j < i
        · rw [if_pos hh, if_pos (by omega)]
        · rw [if_neg hh, if_neg (by omega)]
    rw [e]
    exact ih
def hf (k : Nat) : Nat := max (2 ^ k / 2) 1
theorem twid_Table_ev {k : Nat} {d : Int} (hk : k ≤ 20) (hd : d = 0 ∨ d = 1) : Ev (fun n => twid_Table.f n (k : Int) d) (tab (hf k) (fun i => dr k d ^ i), 0) := by
  have hp := two_pow_lt (n := k) (m := 20) hk
  unfold twid_Table.f
  refine Ev.bind (twid_Root_ev (by omega) hd) ?_
  have c : (0 : Int) ≤ IntKind.u64.wrap (k : Int) := (U_wrap _).1
  have e : mx (((2 ^ k : Nat) : Int) / 2) 1 = ((hf k : Nat) : Int) := by unfold mx hf; omega
  simp -implicitDefEqProofs only [if_true, show ¬ (k : Int) > 20 by omega, if_false, c, shl_i64 (show k ≤ 62 by omega), e]
  refine Ev.bind (root_Powers_ev (U_un _) (by unfold hf; omega)) ?_
  rw [cv_un]
  exact Ev.now _
theorem kern4_whole_ev {k : Nat} (hk : k ≤ 20) {d : Int} (hd : d = 0 ∨ d = 1) : Ev (fun n => kern4_whole.f n (k : Int) d) (tab (2 ^ k) (fun i => dr k d ^ i)) := by
  unfold kern4_whole.f
  refine Ev.bind (twid_Table_ev hk hd) ?_
  have hp := two_pow_lt (n := k) (m := 20) hk
  have hh : hf k ≤ 2 ^ k := by unfold hf; have := Nat.two_pow_pos k; omega
  have c1 : ([] : List Int).length + (tab (hf k) (fun i => dr k d ^ i)).length < 17592186044416 := by rw [List.length_nil, tab_length]; omega
  simp -implicitDefEqProofs only [Option.bind_some, c1, if_true, List.nil_append]
  by_cases hk0 : k = 0
  · subst hk0
    simp -implicitDefEqProofs only [show ¬ ((0 : Nat) : Int) > 0 by omega, if_false]
    exact Ev.now _
  · simp -implicitDefEqProofs only [show (k : Int) > 0 by omega, if_true]
    have hfk : hf k = 2 ^ (k - 1) := by
      unfold hf
      obtain ⟨m, rfl⟩ : ∃ m, k = m + 1 := ⟨k - 1, by omega⟩
      have := Nat.two_pow_pos m
      rw [Nat.pow_succ, Nat.mul_div_cancel _ (by omega), show m + 1 - 1 = m by omega]
      omega
    have h2 : 2 ^ k = 2 ^ (k - 1) + 2 ^ (k - 1) := by
      obtain ⟨m, rfl⟩ : ∃ m, k = m + 1 := ⟨k - 1, by omega⟩
      rw [Nat.pow_succ, show m + 1 - 1 = m by omega]; omega
    rw [hfk]
    have hq : 2 ^ (k - 1) ≤ 2 ^ 20 := by omega
    have half := dr_half4 (k := k) (by omega) (by omega) hd
    rw [h2]
    obtain ⟨n, hn⟩ : ∃ n, n = 2 ^ (k - 1) := ⟨_, rfl⟩
    rw [← hn] at hq half ⊢
    have key := Ev_loop n (fun m i => kern4_whole.l0 m (tab (n + i) (fun i => dr k d ^ i)) (tab n (fun i => dr k d ^ i)) ((tab n (fun i => dr k d ^ i)).length : Int) (i : Int)) (r := tab (n + n) (fun i => dr k d ^ i)) ?_ ?_ 0 (Nat.zero_le _)
    · exact key
    · refine Ev.step (fun m => kern4_whole.l0.eq_2 ..) ?_
      simp -implicitDefEqProofs only [tab_length, show ¬ (n : Int) < (n : Int) by omega, if_false]
      exact Ev.now _
    · intro i hi ih
      refine Ev.step (fun m => kern4_whole.l0.eq_2 ..) ?_
      have e1 : gold_Neg.f (un (dr k d ^ i)) = some (un (dr k d ^ (n + i))) := by
        rw [gold_Neg_eq (U_un _), cv_un, pow_add', half, k3]
      have e3 : tab (n + i) (fun i => dr k d ^ i) ++ [un (dr k d ^ (n + i))] = tab (n + (i + 1)) (fun i => dr k d ^ i) := (tab_succ (n + i) _).symm
      simp -implicitDefEqProofs only [tab_length, show (i : Int) < (n : Int) by omega, show (0 : Int) ≤ (i : Int) by omega, if_true, rd_tab hi, e1, Option.bind_some, show n + i < 17592186044416 by omega, e3, nat64_succ (show i < 9223372036854775807 by omega)]
      simp -implicitDefEqProofs only [tab_length] at ih
      exact ih
where k3 {R : Nat} [NeZero R] (a : Fin R) : -1 * a = -a := by grind

theorem kern4_Unit_ev {d : Int} (hd : d = 0 ∨ d = 1) : Ev (fun n => kern4_Unit.f n d) (un (dr 2 d), 0) := by
  unfold kern4_Unit.f
  refine Ev.bind (twid_Root_ev (k := 2) (by omega) hd) ?_
  exact Ev.now _
theorem conv_times_ev {n : Nat} {a b : List Int} (ha : UL a) (hb : UL b) (hl : a.length = n) (hl2 : b.length = n) (hn : n < 4294967296) : Ev (fun k => conv_times.f k a b) (tab n (fun i => co a i * co b i)) := by
  unfold conv_times.f
  have d1 : (0 : Int) ≤ (a.length : Int) := by omega
  have d2 : a.length ≤ 35184372088832 := by omega
  simp -implicitDefEqProofs only [d1, d2, if_true, Int.toNat_natCast, replicate_tab, Option.bind_some, tab_length]
  rw [hl]
  have e0 : tab n (fun _ => (0 : F)) = tab n (fun j => if j < 0 then co a j * co b j else 0) := tab_congr (fun j hj => by rw [if_neg (by omega)])
  rw [e0]
  refine Ev_loop n (fun k i => conv_times.l0 k a b (tab n (fun j => if j < i then co a j * co b j else 0)) (n : Int) (i : Int)) ?_ (fun i hi ih => ?_) 0 (Nat.zero_le _)
  · refine Ev.step (fun k => conv_times.l0.eq_2 ..) ?_
    simp -implicitDefEqProofs only [Int.lt_irrefl, if_false]
    rw [tab_congr (g := fun i => co a i * co b i) (fun i hi => by rw [if_pos hi])]
    exact Ev.now _
  · refine Ev.step (fun k => conv_times.l0.eq_2 ..) ?_
    have c1 : (i : Int) < (n : Int) := by omega
    have c2 : (0 : Int) ≤ (i : Int) := by omega
    have c3 : (i : Int) < (a.length : Int) := by omega
    have c4 : (i : Int) < (b.length : Int) := by omega
    simp -implicitDefEqProofs only [c1, c2, c3, c4, tab_length, if_true, gold_Mul_eq (U_rd ha _) (U_rd hb _), Option.bind_some, cv_rd, Int.toNat_natCast, tab_set, nat64_succ (show i < 9223372036854775807 by omega)]
    have e : tab n (fun j => if j = i then co a i * co b i else if j < i then co a j * co b j else 0) = tab n (fun j => if j < i + 1 then co a j * co b j else 0) := by
      apply tab_congr
      intro j hj
      by_cases hji : j = i
      · subst hji; rw [if_pos rfl, if_pos (by omega)]
      · rw [if_neg hji]
        by_cases hh : j < i
        · rw [if_pos hh, if_pos (by omega)]
        · rw [if_neg hh, if_neg (by omega)]
    rw [e]
    exact ih

theorem hk_kern_ev {k : Nat} (hk : k ≤ 20) : Ev (fun n => hk_kern n (k : Int)) (tab (2 ^ k) (fun i => dr k 0 ^ i), tab (2 ^ k) (fun i => dr k 1 ^ i), un (dr 2 0), un (dr 2 1), un (sh k)) := by
  unfold hk_kern
  refine Ev.bind (twid_Table_ev (by omega) (.inl rfl)) ?_
  refine Ev.bind (twid_Table_ev (by omega) (.inr rfl)) ?_
  refine Ev.bind (kern4_whole_ev hk (.inl rfl)) ?_
  refine Ev.bind (kern4_whole_ev hk (.inr rfl)) ?_
  refine Ev.bind (kern4_Unit_ev (.inl rfl)) ?_
  refine Ev.bind (kern4_Unit_ev (.inr rfl)) ?_
  refine Ev.bind (twid_Share_ev (by omega)) ?_
  exact Ev.now _
theorem hk_fwd_ev {l : List Int} (h : UL l) {k : Nat} (hk : k ≤ 20) {d : Int} (hd : d = 0 ∨ d = 1) (hl : l.length = 2 ^ k) : Ev (fun n => hk_fwd n k (tab (2 ^ k) (fun i => dr k d ^ i)) (un (dr 2 d)) l) (tab (2 ^ k) (fun j => dft (2 ^ k) (dr k d) (co l) j)) := by
  have hp := two_pow_lt (n := k) (m := 20) hk
  unfold hk_fwd
  refine Ev.bind (twid_Scale_ev h (by omega) U_one) ?_
  rw [scale_one hl]
  have c : (tab (2 ^ k) (co l)).length = l.length ∧ l.length = 2 ^ k ∧ (tab (2 ^ k) (fun i => dr k d ^ i)).length = 2 ^ k := ⟨by rw [tab_length, hl], hl, tab_length _ _⟩
  simp -implicitDefEqProofs only [if_pos c, hk_k4r_eq hk hd (co l)]
  exact Ev.now _
theorem hk_fwd_tf {l : List Int} (h : UL l) {k : Nat} (hk : k ≤ 20) (hl : l.length = 2 ^ k) : Ev (fun n => hk_fwd n k (tab (2 ^ k) (fun i => dr k 0 ^ i)) (un (dr 2 0)) l) (tab (2 ^ k) (tf k 0 (co l))) := by
  have e := hk_fwd_ev h hk (d := 0) (.inl rfl) hl
  rw [tab_congr (fun j _ => (tf_fwd k (co l) j).symm)] at e
  exact e
theorem hk_bwd_ev {l : List Int} (h : UL l) {k : Nat} (hk : k ≤ 20) (hl : l.length = 2 ^ k) : Ev (fun n => hk_bwd n k (tab (2 ^ k) (fun i => dr k 1 ^ i)) (un (dr 2 1)) (un (sh k)) l) (tab (2 ^ k) (tf k 1 (co l))) := by
  have hp := two_pow_lt (n := k) (m := 20) hk
  unfold hk_bwd
  refine Ev.bind (hk_fwd_ev h hk (.inr rfl) hl) ?_
  refine Ev.bind (twid_Scale_ev (UL_tab _ _) (by rw [tab_length]; omega) (U_un (sh k))) ?_
  have e2 : tab (tab (2 ^ k) (fun j => dft (2 ^ k) (dr k 1) (co l) j)).length (fun i => co (tab (2 ^ k) (fun j => dft (2 ^ k) (dr k 1) (co l) j)) i * cv (un (sh k))) = tab (2 ^ k) (tf k 1 (co l)) := by
    rw [tab_length]
    refine tab_congr (fun p hp => ?_)
    rw [co_tab_lt hp, cv_un]
    exact (if_pos rfl).symm
  rw [e2]
  have c : (tab (2 ^ k) (tf k 1 (co l))).length = (tab (2 ^ k) (fun j => dft (2 ^ k) (dr k 1) (co l) j)).length := by rw [tab_length, tab_length]
  simp -implicitDefEqProofs only [if_pos c]
  exact Ev.now _
theorem conv_cyclic_ev {a b : List Int} (ha : UL a) (hb : UL b) {k : Nat} (hk : k ≤ 20) (hl : a.length = 2 ^ k) (hl2 : b.length = 2 ^ k) : Ev (fun n => conv_cyclic.f n a b (k : Int)) (tab (2 ^ k) (wrp (2 ^ k) 1 (co a) (co b))) := by
  have hp := two_pow_lt (n := k) (m := 20) hk
  unfold conv_cyclic.f
  have c : (0 : Int) ≤ (k : Int) ∧ (k : Int) ≤ 20 ∧ a.length = 2 ^ k ∧ b.length = 2 ^ k := ⟨by omega, by omega, hl, hl2⟩
  simp -implicitDefEqProofs only [Int.toNat_natCast]
  simp -implicitDefEqProofs only [if_pos c]
  refine Ev.bind (hk_kern_ev hk) ?_
  refine Ev.bind (hk_fwd_tf ha hk hl) ?_
  refine Ev.bind (hk_fwd_tf hb hk hl2) ?_
  refine Ev.bind (conv_times_ev (n := 2 ^ k) (UL_tab _ _) (UL_tab _ _) (tab_length _ _) (tab_length _ _) (by omega)) ?_
  have e := hk_bwd_ev (l := tab (2 ^ k) (fun i => co (tab (2 ^ k) (tf k 0 (co a))) i * co (tab (2 ^ k) (tf k 0 (co b))) i)) (UL_tab _ _) hk (tab_length _ _)
  have e2 : tab (2 ^ k) (tf k 1 (co (tab (2 ^ k) (fun i => co (tab (2 ^ k) (tf k 0 (co a))) i * co (tab (2 ^ k) (tf k 0 (co b))) i)))) = tab (2 ^ k) (wrp (2 ^ k) 1 (co a) (co b)) := by
    refine tab_congr (fun j hj => ?_)
    rw [← wrp_tf (by omega) (co a) (co b) hj]
    exact tf_congr (fun i hi => by rw [co_tab_lt hi, co_tab_lt hi, co_tab_lt hi]) j
  rw [e2] at e
  exact e

theorem conv_padded_ev {p : List Int} {k : Nat} (hk : k ≤ 20) (h0 : 0 < p.length) (hl : p.length ≤ 2 ^ k) : Ev (fun n => conv_padded.f n p (k : Int)) (p ++ List.replicate (2 ^ k - p.length) 0) := by
  have c : (0 : Int) ≤ (k : Int) ∧ (k : Int) ≤ 20 ∧ 0 < p.length ∧ p.length ≤ 2 ^ k := ⟨by omega, by omega, h0, hl⟩
  unfold conv_padded.f
  simp -implicitDefEqProofs only [Int.toNat_natCast]
  rw [if_pos c]
  exact Ev.now _
theorem pad_tr {m n : Nat} {f : Nat → F} (hf : ∀ i, m ≤ i → f i = 0) (h : dg m f ≤ n) : tr m f ++ List.replicate (n - (tr m f).length) 0 = tab n f := by
  rw [tr_length]
  unfold tr
  rw [replicate_tab, tab_append, show dg m f + (n - dg m f) = n by omega]
  refine tab_congr (fun i hi => ?_)
  by_cases c : i < dg m f
  · rw [if_pos c]
  · rw [if_neg c]
    rcases Nat.lt_or_ge i m with d | d
    · exact (dg_out (by omega) d).symm
    · exact (hf i d).symm

theorem product_none {a b : List Int} (k : Nat) : Ev (fun k => conv_product.j0 k a b true) [] := by
  refine Ev.step (fun k => conv_product.j0.eq_2 ..) ?_
  exact Ev.now _
theorem conv_product_ev {p q : List Int} (hp : UL p) (hq : UL q) (hl : p.length + q.length ≤ 524288) : Ev (fun k => conv_product.f k p q) (pmul p q) := by
  unfold conv_product.f
  refine Ev.bind (poly_Trim_ev hp (by omega)) ?_
  refine Ev.bind (poly_Trim_ev hq (by omega)) ?_
  have hdp := dg_le p.length (co p)
  have hdq := dg_le q.length (co q)
  rw [tr_length, tr_length]
  by_cases c1 : dg p.length (co p) = 0
  · simp -implicitDefEqProofs only [show (dg p.length (co p) : Int) = 0 by omega, if_true]
    have e : pmul p q = [] := tr_zero (fun i _ => by
      refine Sm_zeros (fun j _ => ?_)
      have : co p j = 0 := by
        rcases Nat.lt_or_ge j p.length with d | d
        · exact dg_out (by omega) d
        · exact co_out d
      rw [this]; exact k1 _)
    rw [e]
    exact product_none 0
  simp -implicitDefEqProofs only [show ¬ (dg p.length (co p) : Int) = 0 by omega, if_false]
  by_cases c2 : dg q.length (co q) = 0
  · have e0 : ((dg q.length (co q) : Int) == 0) = true := beq_iff_eq.2 (by omega)
    have e : pmul p q = [] := tr_zero (fun i _ => by
      refine Sm_zeros (fun j _ => ?_)
      have : co q (i - j) = 0 := by
        rcases Nat.lt_or_ge (i - j) q.length with d | d
        · exact dg_out (by omega) d
        · exact co_out d
      rw [this]; exact k2 _)
    rw [e0, e]
    exact product_none 0
  have e0 : ((dg q.length (co q) : Int) == 0) = false := beq_eq_false_iff_ne.2 (by omega)
  rw [e0]
  refine Ev.step (fun k => conv_product.j0.eq_2 ..) ?_
  simp -implicitDefEqProofs only [Bool.false_eq_true, if_false, tr_length]
  obtain ⟨e, he, hle, hE⟩ := conv_exponent_ev (n := dg p.length (co p) + dg q.length (co q) - 1) (by omega)
  have ea : wrap64 (wrap64 ((dg p.length (co p) : Int) + (dg q.length (co q) : Int)) - 1) = ((dg p.length (co p) + dg q.length (co q) - 1 : Nat) : Int) := by
    rw [add64 (by omega), wrap64_of (by omega) (by omega)]; omega
  rw [ea]
  refine Ev.bind hE ?_
  have hp2 := two_pow_lt (n := e) (m := 19) he
  refine Ev.bind (conv_padded_ev (by omega) (by rw [tr_length]; omega) (by rw [tr_length]; omega)) ?_
  refine Ev.bind (conv_padded_ev (by omega) (by rw [tr_length]; omega) (by rw [tr_length]; omega)) ?_
  rw [pad_tr (row_out p) (by omega), pad_tr (row_out q) (by omega)]
  refine Ev.bind (conv_cyclic_ev (UL_tab _ _) (UL_tab _ _) (by omega) (tab_length _ _) (tab_length _ _)) ?_
  refine Ev.bind (poly_Trim_ev (UL_tab _ _) (by rw [tab_length]; omega)) ?_
  refine Ev.congr (fun _ => ?_) (Ev.now _)
  refine congrArg some ?_
  rw [tab_length]
  unfold pmul
  have op : ∀ i, dg p.length (co p) ≤ i → co p i = 0 := fun i hi => by
    rcases Nat.lt_or_ge i p.length with d | d
    · exact dg_out hi d
    · exact co_out d
  have oq : ∀ i, dg q.length (co q) ≤ i → co q i = 0 := fun i hi => by
    rcases Nat.lt_or_ge i q.length with d | d
    · exact dg_out hi d
    · exact co_out d
  rw [tr_congr (n := 2 ^ e) (g := cvl (co p) (co q)) (fun j hj => by
    rw [co_tab_lt hj, wrp_congr hj (fun i hi => co_tab_lt hi) (fun i hi => co_tab_lt hi), wrp_fold hj 1 (fun i hi => op i (by omega)) (fun i hi => oq i (by omega)), cvl_out op oq (k := j + 2 ^ e) (by omega)]
    exact k3 _)]
  exact tr_eq (fun _ => rfl) (fun i hi => cvl_out op oq (by omega)) (fun i hi => cvl_out (row_out p) (row_out q) (by omega))
where
  k1 {R : Nat} [NeZero R] (x : Fin R) : 0 * x = 0 := by grind
  k2 {R : Nat} [NeZero R] (x : Fin R) : x * 0 = 0 := by grind
  k3 {R : Nat} [NeZero R] (x : Fin R) : x + 1 * 0 = x := by grind

theorem rdl_at (ls : List (List Int)) (i : Nat) : rd_L1 ls (i : Int) = ls.getD i [] := by unfold rd_L1; rw [Int.toNat_natCast]
/-- How many words the first rows have. -/
def tot (l : List (List Int)) : Nat → Nat
  | 0 => 0
  | i + 1 => tot l i + (l.getD i []).length
/-- The product of the first rows. -/
def pst (l : List (List Int)) : Nat → List Int
  | 0 => [1]
  | i + 1 => pmul (pst l i) (l.getD i [])
theorem pst_length (l : List (List Int)) : ∀ i, (pst l i).length ≤ 1 + tot l i
  | 0 => Nat.le_refl _
  | i + 1 => by
    have h1 := pst_length l i
    have h2 := pmul_length (pst l i) (l.getD i [])
    show (pmul (pst l i) (l.getD i [])).length ≤ 1 + (tot l i + (l.getD i []).length)
    omega
theorem tot_le (l : List (List Int)) {i j : Nat} (h : i ≤ j) : tot l i ≤ tot l j := by
  induction j with
  | zero => obtain rfl : i = 0 := by omega
            exact Nat.le_refl _
  | succ j ih =>
    rcases Nat.lt_or_ge i (j + 1) with d | d
    · have := ih (by omega)
      show tot l i ≤ tot l j + _
      omega
    · obtain rfl : i = j + 1 := by omega
      exact Nat.le_refl _
theorem pst_UL (l : List (List Int)) : ∀ i, UL (pst l i)
  | 0 => UL_cons U_one UL_nil
  | i + 1 => UL_tr _ _
theorem rows_UL {l : List (List Int)} (h : ∀ p ∈ l, UL p) (i : Nat) : UL (l.getD i []) := by
  rw [List.getD_eq_getElem?_getD]
  by_cases hi : i < l.length
  · rw [List.getElem?_eq_getElem hi]; exact h _ (List.getElem_mem hi)
  · rw [List.getElem?_eq_none (by omega)]; exact UL_nil
theorem conv_Product_ev {l : List (List Int)} (h : ∀ p ∈ l, UL p) (hn : l.length < 4294967296) (hl : tot l l.length < 524288) : Ev (fun k => conv_Product.f k l) (pst l l.length, 0) := by
  have second : Ev (fun k => conv_Product.l1 k [1] l (l.length : Int) 0) (pst l l.length, 0) := by
    refine Ev_loop l.length (fun k i => conv_Product.l1 k (pst l i) l (l.length : Int) (i : Int)) ?_ (fun i hi ih => ?_) 0 (Nat.zero_le _)
    · refine Ev.step (fun k => conv_Product.l1.eq_2 ..) ?_
      simp -implicitDefEqProofs only [Int.lt_irrefl, if_false]
      exact Ev.now _
    · refine Ev.step (fun k => conv_Product.l1.eq_2 ..) ?_
      simp -implicitDefEqProofs only [show (i : Int) < (l.length : Int) by omega, show (0 : Int) ≤ (i : Int) by omega, if_true, rdl_at, nat64_succ (show i < 9223372036854775807 by omega)]
      have h1 := pst_length l i
      have h2 := tot_le l (show i + 1 ≤ l.length by omega)
      have h3 : tot l (i + 1) = tot l i + (l.getD i []).length := rfl
      refine Ev.bind (conv_product_ev (pst_UL l i) (rows_UL h i) (by omega)) ?_
      exact ih
  unfold conv_Product.f
  refine Ev_loop l.length (fun k i => conv_Product.l0 k l (tot l i : Int) l (l.length : Int) (i : Int)) ?_ (fun i hi ih => ?_) 0 (Nat.zero_le _)
  · refine Ev.step (fun k => conv_Product.l0.eq_2 ..) ?_
    simp -implicitDefEqProofs only [Int.lt_irrefl, if_false]
    exact second
  · refine Ev.step (fun k => conv_Product.l0.eq_2 ..) ?_
    have h2 := tot_le l (show i + 1 ≤ l.length by omega)
    have h3 : tot l (i + 1) = tot l i + (l.getD i []).length := rfl
    have e1 : wrap64 (524288 - (tot l i : Int)) = 524288 - (tot l i : Int) := wrap64_of (by omega) (by omega)
    simp -implicitDefEqProofs only [show (i : Int) < (l.length : Int) by omega, show (0 : Int) ≤ (i : Int) by omega, if_true, rdl_at, e1, show ¬ (((l.getD i []).length : Int) > 524288 - (tot l i : Int)) by omega, if_false, nat64_succ (show i < 9223372036854775807 by omega), add64 (show tot l i + (l.getD i []).length < 9223372036854775808 by omega)]
    exact ih

theorem tree_product_ev {l : List (List Int)} (h : ∀ p ∈ l, UL p) (hn : l.length < 4294967296) (hl : tot l l.length < 524288) : Ev (fun k => tree_product.f k l) (pst l l.length) := by
  unfold tree_product.f
  exact Ev.bind (conv_Product_ev h hn hl) (Ev.now _)

/-- The level above one: two and two's products. -/
def abv : List (List Int) → List (List Int)
  | [] => []
  | [a] => [pst [a] 1]
  | a :: b :: t => pst [a, b] 2 :: abv t
theorem tree_above_go {l : List (List Int)} (hU : ∀ p ∈ l, UL p) (hn : l.length < 4294967296) (hl : ∀ p ∈ l, p.length ≤ 100000) :
    ∀ (n : Nat) (p t o : List (List Int)), t.length ≤ n → l = p ++ t → o.length ≤ p.length → Ev (fun k => tree_above.l0 k l o (p.length : Int)) (o ++ abv t) := by
  have stop : ∀ (i : Nat) (o : List (List Int)), l.length ≤ i → Ev (fun k => tree_above.l0 k l o (i : Int)) o := fun i o h => by
    refine Ev.step (fun k => tree_above.l0.eq_2 ..) ?_
    simp -implicitDefEqProofs only [show ¬ (i : Int) < (l.length : Int) by omega, if_false]
    exact Ev.now _
  intro n
  induction n with
  | zero =>
    intro p t o ht hp _
    obtain rfl : t = [] := List.eq_nil_of_length_eq_zero (by omega)
    rw [show abv [] = [] from rfl, List.append_nil]
    exact stop _ _ (by rw [hp, List.append_nil]; exact Nat.le_refl _)
  | succ n ih =>
    intro p t o ht hp ho
    rcases t with _ | ⟨a, _ | ⟨b, t⟩⟩
    · rw [show abv [] = [] from rfl, List.append_nil]
      exact stop _ _ (by rw [hp, List.append_nil]; exact Nat.le_refl _)
    · have hll : l.length = p.length + 1 := by rw [hp, List.length_append]; rfl
      have ha : a ∈ l := by rw [hp]; simp
      have w2 : wrap64 ((p.length : Int) + 2) = ((p.length + 2 : Nat) : Int) := by rw [wrap64_of (by omega) (by omega)]; omega
      have em : mn ((p.length + 2 : Nat) : Int) (l.length : Int) = (l.length : Int) := by unfold mn; rw [if_pos (by omega)]
      have ec : (l.take l.length).drop p.length = [a] := by rw [List.take_length, hp, List.drop_left]
      refine Ev.step (fun k => tree_above.l0.eq_2 ..) ?_
      simp -implicitDefEqProofs only [show (p.length : Int) < (l.length : Int) by omega, if_true, show (0 : Int) ≤ (p.length : Int) by omega, w2, em, show (p.length : Int) ≤ (l.length : Int) by omega, Int.le_refl, Int.toNat_natCast, ec]
      have ht1 : tot [a] 1 = a.length := by show 0 + a.length = a.length; omega
      refine Ev.bind (tree_product_ev (l := [a]) (fun q hq => by rw [List.mem_singleton] at hq; rw [hq]; exact hU a ha) (show 1 < 4294967296 by decide) (by rw [show [a].length = 1 from rfl, ht1]; have := hl a ha; omega)) ?_
      simp -implicitDefEqProofs only [show o.length < 5864062014805 by omega, if_true]
      exact stop _ _ (by omega)
    · have hll : l.length = p.length + (t.length + 2) := by rw [hp, List.length_append]; rfl
      have ha : a ∈ l := by rw [hp]; simp
      have hb : b ∈ l := by rw [hp]; simp
      have w2 : wrap64 ((p.length : Int) + 2) = ((p.length + 2 : Nat) : Int) := by rw [wrap64_of (by omega) (by omega)]; omega
      have em : mn ((p.length + 2 : Nat) : Int) (l.length : Int) = ((p.length + 2 : Nat) : Int) := by
        unfold mn
        by_cases c : (l.length : Int) < ((p.length + 2 : Nat) : Int)
        · omega
        · rw [if_neg c]
      have ec : (l.take (p.length + 2)).drop p.length = [a, b] := by
        rw [hp, List.take_append, List.take_of_length_le (show p.length ≤ p.length + 2 by omega), List.drop_left, Nat.add_sub_cancel_left]; rfl
      refine Ev.step (fun k => tree_above.l0.eq_2 ..) ?_
      simp -implicitDefEqProofs only [show (p.length : Int) < (l.length : Int) by omega, if_true, show (0 : Int) ≤ (p.length : Int) by omega, w2, em, show (p.length : Int) ≤ ((p.length + 2 : Nat) : Int) by omega, show ((p.length + 2 : Nat) : Int) ≤ (l.length : Int) by omega, Int.toNat_natCast, ec]
      have ht1 : tot [a, b] 2 = a.length + b.length := by show 0 + a.length + b.length = a.length + b.length; omega
      refine Ev.bind (tree_product_ev (l := [a, b]) (fun q hq => by
        rcases List.mem_cons.1 hq with rfl | hq
        · exact hU _ ha
        · rw [List.mem_singleton] at hq; rw [hq]; exact hU b hb) (show 2 < 4294967296 by decide) (by rw [show [a, b].length = 2 from rfl, ht1]; have := hl a ha; have := hl b hb; omega)) ?_
      simp -implicitDefEqProofs only [show o.length < 5864062014805 by omega, if_true]
      have h1 := ih (p ++ [a, b]) t (o ++ [pst [a, b] 2]) (by simp only [List.length_cons] at ht; omega) (by rw [hp]; simp) (by rw [List.length_append, List.length_append, List.length_singleton]; show o.length + 1 ≤ p.length + 2; omega)
      rw [List.length_append, show [a, b].length = 2 from rfl, List.append_assoc] at h1
      exact h1
theorem tree_above_ev {l : List (List Int)} (hU : ∀ p ∈ l, UL p) (hn : l.length < 4294967296) (hl : ∀ p ∈ l, p.length ≤ 100000) : Ev (fun k => tree_above.f k l) (abv l) := tree_above_go hU hn hl l.length [] l [] (Nat.le_refl _) rfl (Nat.le_refl _)

/-- A row of words, trimmed. -/
def TR (x : List Int) : Prop := UL x ∧ IsRow x (co x)
theorem TR_of {x : List Int} {f : Nat → F} (h : IsRow x f) : TR x := by
  refine ⟨?_, by rw [h.co]; exact h⟩
  obtain ⟨n, _, rfl⟩ := h
  exact UL_tr _ _
theorem TR_pmul (a b : List Int) : TR (pmul a b) := TR_of (pmul_any a b)
theorem row_len {x : List Int} {f : Nat → F} {m : Nat} (hx : IsRow x f) (h : ∀ i, m ≤ i → f i = 0) : x.length ≤ m := by
  obtain ⟨n, hn, rfl⟩ := hx
  rw [tr_length]
  rcases Nat.lt_or_ge m (dg n f) with c | c
  · exact absurd (h (dg n f - 1) (by omega)) (dg_last (by omega))
  · exact c
theorem pst_one_row (a : List Int) : IsRow (pst [a] 1) (co a) := by
  have h := pmul_any [1] a
  exact h.congr (fun i => by rw [pone_row.co]; exact pone_cvl _ _)
theorem pst_two_row (a b : List Int) : IsRow (pst [a, b] 2) (cvl (co a) (co b)) := by
  have h := pmul_any (pst [a] 1) b
  rw [(pst_one_row a).co] at h
  exact h
theorem pst_one_of {a : List Int} (h : TR a) : pst [a] 1 = a := (pst_one_row a).uniq h.2
theorem pst_two_eq (a b : List Int) : pst [a, b] 2 = pmul a b := (pst_two_row a b).uniq (pmul_any a b)
theorem pst_one_len (a : List Int) : (pst [a] 1).length ≤ a.length := row_len (pst_one_row a) (row_out a)
theorem pst_two_len (a b : List Int) : (pst [a, b] 2).length ≤ a.length + b.length := by rw [pst_two_eq]; exact pmul_length a b
/-- How many words the rows of a level have, together. -/
def sl : List (List Int) → Nat
  | [] => 0
  | p :: t => p.length + sl t
theorem sl_mem : ∀ {c : List (List Int)} {p : List Int}, p ∈ c → p.length ≤ sl c
  | [], _, h => by cases h
  | q :: t, p, h => by
    rcases List.mem_cons.1 h with rfl | h
    · exact Nat.le_add_right _ _
    · exact Nat.le_trans (sl_mem h) (Nat.le_add_left _ _)
theorem sl_abv : ∀ c : List (List Int), sl (abv c) ≤ sl c
  | [] => Nat.le_refl _
  | [a] => by
    have := pst_one_len a
    show (pst [a] 1).length + 0 ≤ a.length + 0
    omega
  | a :: b :: t => by
    have h1 := pst_two_len a b
    have h2 := sl_abv t
    show (pst [a, b] 2).length + sl (abv t) ≤ a.length + (b.length + sl t)
    omega
theorem abv_length : ∀ c : List (List Int), (abv c).length = (c.length + 1) / 2
  | [] => rfl
  | [a] => by show 1 = (0 + 1 + 1) / 2; decide
  | a :: b :: t => by
    have h := abv_length t
    show (abv t).length + 1 = (t.length + 1 + 1 + 1) / 2
    omega
theorem abv_TR : ∀ c : List (List Int), ∀ p ∈ abv c, TR p
  | [], p, h => by cases h
  | [a], p, h => by
    rw [show abv [a] = [pst [a] 1] from rfl, List.mem_singleton] at h
    rw [h]; exact TR_of (pst_one_row a)
  | a :: b :: t, p, h => by
    rcases List.mem_cons.1 h with h | h
    · rw [h]; exact TR_of (pst_two_row a b)
    · exact abv_TR t p h
/-- From one level on: it, and the levels above. -/
def lad : Nat → List (List Int) → List (List (List Int))
  | 0, c => [c]
  | n + 1, c => if 1 < c.length then c :: lad n (abv c) else [c]
theorem lad_cons (n : Nat) (c : List (List Int)) : lad n c = c :: (lad n c).tail := by
  cases n with
  | zero => rfl
  | succ n =>
    unfold lad
    by_cases h : 1 < c.length
    · rw [if_pos h]; rfl
    · rw [if_neg h]; rfl
def leaves (l : List Int) : List (List Int) := l.map fun x => [un (- cv x), 1]
theorem leaves_length (l : List Int) : (leaves l).length = l.length := List.length_map _
theorem leaf_row (a : F) : IsRow [un (-a), 1] (lin a) := by
  have e : [un (-a), 1] = tr 2 (lin a) := by
    unfold tr
    rw [dg_unique (n := 2) (m := 2) (Nat.le_refl _) (fun i h1 h2 => by omega) (fun _ => by
      have e : lin a (2 - 1) = 1 := by unfold lin; rw [if_neg (by omega), if_pos (by omega)]
      rw [e]; exact one_ne_zero)]
    rw [tab_succ, tab_succ, tab_nil]
    have e0 : lin a 0 = -a := by unfold lin; rw [if_pos rfl]
    have e1 : lin a (0 + 1) = 1 := by unfold lin; rw [if_neg (by omega), if_pos rfl]
    rw [e0, e1, un_one]; rfl
  rw [e]
  exact IsRow.of (fun i hi => lin_out a hi)
theorem leaves_TR (l : List Int) : ∀ p ∈ leaves l, TR p := fun p hp => by
  obtain ⟨x, _, rfl⟩ := List.mem_map.1 hp
  exact TR_of (leaf_row (cv x))
theorem leaves_sl : ∀ l : List Int, sl (leaves l) = 2 * l.length
  | [] => rfl
  | a :: t => by
    have h := leaves_sl t
    show 2 + sl (leaves t) = 2 * (t.length + 1)
    omega
theorem hk_lin_leaves {l : List Int} (h : UL l) : l.map hk_lin = leaves l := by
  unfold leaves
  refine List.map_congr_left (fun x hx => ?_)
  unfold hk_lin
  rw [gold_Neg_eq (h x hx)]; rfl
theorem tree_New_l1 : ∀ (n : Nat) (c : List (List Int)) (L : List (List (List Int))), c.length ≤ n → n + L.length ≤ 10000 → (∀ p ∈ c, UL p) → sl c ≤ 10000 → Ev (fun k => tree_New.l1 k c L) (L ++ (lad n c).tail)
  | 0, c, L, hn, _, _, _ => by
    refine Ev.step (fun k => tree_New.l1.eq_2 ..) ?_
    simp -implicitDefEqProofs only [show ¬ 1 < c.length by omega, if_false]
    rw [show (lad 0 c).tail = [] from rfl, List.append_nil]
    exact Ev.now _
  | n + 1, c, L, hn, hL, hU, hs => by
    refine Ev.step (fun k => tree_New.l1.eq_2 ..) ?_
    by_cases h : 1 < c.length
    · simp -implicitDefEqProofs only [h, if_true]
      have hA := tree_above_ev hU (by omega) (fun p hp => by have := sl_mem hp; omega)
      refine Ev.bind hA ?_
      simp -implicitDefEqProofs only [show L.length < 4294967296 by omega, if_true]
      have ih := tree_New_l1 n (abv c) (L ++ [abv c]) (by rw [abv_length]; omega) (by rw [List.length_append, List.length_singleton]; omega) (fun p hp => (abv_TR c p hp).1) (Nat.le_trans (sl_abv c) hs)
      have e : L ++ (lad (n + 1) c).tail = L ++ [abv c] ++ (lad n (abv c)).tail := by
        rw [List.append_assoc]
        congr 1
        rw [show lad (n + 1) c = c :: lad n (abv c) from if_pos h]
        exact lad_cons n (abv c)
      rw [e]
      exact ih
    · simp -implicitDefEqProofs only [h, if_false]
      have e : (lad (n + 1) c).tail = [] := by unfold lad; rw [if_neg h]; rfl
      rw [e, List.append_nil]
      exact Ev.now _
theorem tree_New_ev {l : List Int} (h : UL l) (h0 : 0 < l.length) (h1 : l.length ≤ 64) : Ev (fun k => tree_New.f k l) (lad l.length (leaves l)) := by
  unfold tree_New.f
  have ha : (l.all fun x => (gold_Of.f x).isSome && (gold_Neg.f x).isSome) = true := by
    rw [List.all_eq_true]
    intro x hx
    rw [gold_Of_eq (h x hx), gold_Neg_eq (h x hx)]; rfl
  simp -implicitDefEqProofs only [if_pos (show 0 < l.length ∧ l.length ≤ 4096 ∧ (l.all fun x => (gold_Of.f x).isSome && (gold_Neg.f x).isSome) = true from ⟨h0, by omega, ha⟩), hk_lin_leaves h]
  have := tree_New_l1 l.length (leaves l) [leaves l] (by rw [leaves_length]; exact Nat.le_refl _) (by rw [List.length_singleton]; omega) (fun p hp => (leaves_TR l p hp).1) (by rw [leaves_sl]; omega)
  rw [lad_cons l.length (leaves l)]
  exact this
/-- The points of the nodes, level by level. -/
def pabv : List (List F) → List (List F)
  | [] => []
  | [a] => [a]
  | a :: b :: t => (a ++ b) :: pabv t
def plad : Nat → List (List F) → List (List (List F))
  | 0, c => [c]
  | n + 1, c => if 1 < c.length then c :: plad n (pabv c) else [c]
theorem nrow_TR (zs : List F) : TR (nrow zs) := TR_of (nrow_row zs)
theorem abv_pabv : ∀ c : List (List F), abv (c.map nrow) = (pabv c).map nrow
  | [] => rfl
  | [a] => by
    show [pst [nrow a] 1] = [nrow a]
    rw [pst_one_of (nrow_TR a)]
  | a :: b :: t => by
    show pst [nrow a, nrow b] 2 :: abv (t.map nrow) = nrow (a ++ b) :: (pabv t).map nrow
    rw [pst_two_eq, nrow_two, abv_pabv t]
theorem lad_plad : ∀ (n : Nat) (c : List (List F)), lad n (c.map nrow) = (plad n c).map fun d => d.map nrow
  | 0, c => rfl
  | n + 1, c => by
    unfold lad plad
    rw [List.length_map]
    by_cases h : 1 < c.length
    · rw [if_pos h, if_pos h, abv_pabv, lad_plad n (pabv c)]; rfl
    · rw [if_neg h, if_neg h]; rfl
theorem pabv_length : ∀ c : List (List F), (pabv c).length = (c.length + 1) / 2
  | [] => rfl
  | [a] => by show 1 = (0 + 1 + 1) / 2; decide
  | a :: b :: t => by
    have h := pabv_length t
    show (pabv t).length + 1 = (t.length + 1 + 1 + 1) / 2
    omega
theorem pabv_flat : ∀ c : List (List F), (pabv c).flatten = c.flatten
  | [] => rfl
  | [a] => rfl
  | a :: b :: t => by
    show (a ++ b) ++ (pabv t).flatten = a ++ (b ++ t.flatten)
    rw [pabv_flat t, List.append_assoc]
/-- Of a node above: the two below it. -/
theorem pabv_at : ∀ (c : List (List F)) (j : Nat), 2 * j < c.length → (pabv c).getD j [] = c.getD (2 * j) [] ++ c.getD (2 * j + 1) []
  | [], j, h => by simp only [List.length_nil] at h; omega
  | [a], j, h => by
    simp only [List.length_cons, List.length_nil] at h
    obtain rfl : j = 0 := by omega
    show a = a ++ []
    rw [List.append_nil]
  | a :: b :: t, 0, _ => rfl
  | a :: b :: t, j + 1, h => by
    simp only [List.length_cons] at h
    have ih := pabv_at t j (by omega)
    show (pabv t).getD j [] = (a :: b :: t).getD (2 * (j + 1)) [] ++ (a :: b :: t).getD (2 * (j + 1) + 1) []
    rw [ih, show 2 * (j + 1) = 2 * j + 1 + 1 by omega]
    rfl
def pts (l : List Int) : List F := l.map cv
def sing (zs : List F) : List (List F) := zs.map fun z => [z]
theorem sing_flat : ∀ zs : List F, (sing zs).flatten = zs
  | [] => rfl
  | z :: zs => by
    show [z] ++ (sing zs).flatten = z :: zs
    rw [sing_flat zs]; rfl
theorem leaf_nrow (a : F) : [un (-a), 1] = nrow [a] := (leaf_row a).uniq ((nrow_row [a]).congr (fun i => by rw [fp_single]))
theorem leaves_nrow (l : List Int) : leaves l = (sing (pts l)).map nrow := by
  unfold leaves sing pts
  rw [List.map_map, List.map_map]
  exact List.map_congr_left (fun x _ => leaf_nrow (cv x))
/-- The tree of points. -/
def ptree (l : List Int) : List (List (List F)) := plad l.length (sing (pts l))
theorem lad_ptree (l : List Int) : lad l.length (leaves l) = (ptree l).map fun d => d.map nrow := by rw [leaves_nrow, lad_plad]; rfl
theorem plad_ne (n : Nat) (c : List (List F)) : 0 < (plad n c).length := by
  cases n with
  | zero => exact Nat.zero_lt_one
  | succ n =>
    unfold plad
    by_cases h : 1 < c.length
    · rw [if_pos h]; exact Nat.succ_pos _
    · rw [if_neg h]; exact Nat.zero_lt_one
theorem plad_len : ∀ (n : Nat) (c : List (List F)), (plad n c).length ≤ n + 1
  | 0, c => Nat.le_refl 1
  | n + 1, c => by
    unfold plad
    by_cases h : 1 < c.length
    · rw [if_pos h]; have := plad_len n (pabv c); simp only [List.length_cons]; omega
    · rw [if_neg h]; simp only [List.length_cons, List.length_nil]; omega
theorem plad_zero (n : Nat) (c : List (List F)) : (plad n c).getD 0 [] = c := by
  cases n with
  | zero => rfl
  | succ n =>
    unfold plad
    by_cases h : 1 < c.length
    · rw [if_pos h]; rfl
    · rw [if_neg h]; rfl
theorem plad_up : ∀ (n : Nat) (c : List (List F)) (k : Nat), k + 1 < (plad n c).length → (plad n c).getD (k + 1) [] = pabv ((plad n c).getD k [])
  | 0, c, k, h => by
    have : (plad 0 c).length = 1 := rfl
    omega
  | n + 1, c, k, h => by
    unfold plad at h ⊢
    by_cases g : 1 < c.length
    · rw [if_pos g] at h ⊢
      simp only [List.length_cons] at h
      cases k with
      | zero =>
        show (plad n (pabv c)).getD 0 [] = pabv c
        exact plad_zero _ _
      | succ k => exact plad_up n (pabv c) k (by omega)
    · rw [if_neg g] at h
      simp only [List.length_cons, List.length_nil] at h
      omega
theorem plad_more : ∀ (n : Nat) (c : List (List F)) (k : Nat), k + 1 < (plad n c).length → 1 < ((plad n c).getD k []).length
  | 0, c, k, h => by
    have : (plad 0 c).length = 1 := rfl
    omega
  | n + 1, c, k, h => by
    unfold plad at h ⊢
    by_cases g : 1 < c.length
    · rw [if_pos g] at h ⊢
      simp only [List.length_cons] at h
      cases k with
      | zero => exact g
      | succ k => exact plad_more n (pabv c) k (by omega)
    · rw [if_neg g] at h
      simp only [List.length_cons, List.length_nil] at h
      omega
theorem plad_last : ∀ (n : Nat) (c : List (List F)), 0 < c.length → c.length ≤ n + 1 → ((plad n c).getD ((plad n c).length - 1) []).length = 1
  | 0, c, h0, h1 => by
    show c.length = 1
    omega
  | n + 1, c, h0, h1 => by
    unfold plad
    by_cases g : 1 < c.length
    · rw [if_pos g]
      have ih := plad_last n (pabv c) (by rw [pabv_length]; omega) (by rw [pabv_length]; omega)
      have hn := plad_ne n (pabv c)
      rw [show (c :: plad n (pabv c)).length - 1 = (plad n (pabv c)).length - 1 + 1 by simp only [List.length_cons]; omega]
      exact ih
    · rw [if_neg g]
      show c.length = 1
      omega
theorem plad_flat : ∀ (n : Nat) (c : List (List F)) (k : Nat), k < (plad n c).length → ((plad n c).getD k []).flatten = c.flatten
  | n, c, 0, _ => by rw [plad_zero]
  | n, c, k + 1, h => by rw [plad_up n c k h, pabv_flat, plad_flat n c k (by omega)]
/-- What is known of a tree: T m is level m. -/
structure Tr (l : List Int) (T : List (List (List F))) : Prop where
  ne : 0 < T.length
  len : T.length ≤ l.length + 1
  zero : T.getD 0 [] = sing (pts l)
  up : ∀ k, k + 1 < T.length → T.getD (k + 1) [] = pabv (T.getD k [])
  more : ∀ k, k + 1 < T.length → 1 < (T.getD k []).length
  last : (T.getD (T.length - 1) []).length = 1
  flat : ∀ k, k < T.length → (T.getD k []).flatten = pts l
theorem ptree_Tr {l : List Int} (h : 0 < l.length) : Tr l (ptree l) where
  ne := plad_ne _ _
  len := plad_len _ _
  zero := plad_zero _ _
  up := plad_up _ _
  more := plad_more _ _
  last := plad_last _ _ (by unfold sing pts; rw [List.length_map, List.length_map]; exact h) (by unfold sing pts; rw [List.length_map, List.length_map]; omega)
  flat := fun k hk => by rw [← sing_flat (pts l)]; exact plad_flat _ _ k hk
/-- The last level is the product of all. -/
theorem Tr.top {l : List Int} {T : List (List (List F))} (h : Tr l T) : T.getD (T.length - 1) [] = [pts l] := by
  have h1 := h.last
  have h2 := h.flat (T.length - 1) (by have := h.ne; omega)
  generalize T.getD (T.length - 1) [] = c at h1 h2
  obtain ⟨a, rfl⟩ := List.length_eq_one_iff.1 h1
  rw [← h2]
  show [a] = [a ++ []]
  rw [List.append_nil]
theorem flat_len : ∀ (c : List (List F)) (a : List F), a ∈ c → a.length ≤ c.flatten.length
  | [], a, h => by cases h
  | b :: t, a, h => by
    rw [List.flatten_cons, List.length_append]
    rcases List.mem_cons.1 h with h | h
    · rw [h]; exact Nat.le_add_right _ _
    · exact Nat.le_trans (flat_len t a h) (Nat.le_add_left _ _)
theorem getD_mem' {α : Type} {c : List α} {j : Nat} (h : j < c.length) (d : α) : c.getD j d ∈ c := by
  rw [List.getD_eq_getElem?_getD, List.getElem?_eq_getElem h]; exact List.getElem_mem h
theorem pts_length (l : List Int) : (pts l).length = l.length := List.length_map _
/-- A node's row is short. -/
theorem Tr.short {l : List Int} {T : List (List (List F))} (h : Tr l T) {k j : Nat} (hk : k < T.length) (hj : j < (T.getD k []).length) : ((T.getD k []).getD j []).length ≤ l.length := by
  have h1 := flat_len _ _ (getD_mem' hj [])
  rw [h.flat k hk, pts_length] at h1
  exact h1
theorem map_getD {α β : Type} (f : α → β) (c : List α) {j : Nat} (h : j < c.length) (d : α) (e : β) : (c.map f).getD j e = f (c.getD j d) := by
  rw [List.getD_eq_getElem?_getD, List.getD_eq_getElem?_getD, List.getElem?_map, List.getElem?_eq_getElem h]; rfl
/-- The levels' rows. -/
def rowsOf (T : List (List (List F))) : List (List (List Int)) := T.map fun d => d.map nrow
theorem rowsOf_length (T : List (List (List F))) : (rowsOf T).length = T.length := List.length_map _
theorem rowsOf_at (T : List (List (List F))) (k : Nat) : (rowsOf T).getD k [] = (T.getD k []).map nrow := by
  unfold rowsOf
  by_cases h : k < T.length
  · exact map_getD _ T h [] []
  · rw [List.getD_eq_getElem?_getD, List.getElem?_eq_none (by rw [List.length_map]; omega), List.getD_eq_getElem?_getD, List.getElem?_eq_none (by omega)]; rfl
theorem rowsOf_node (T : List (List (List F))) (k : Nat) {j : Nat} (h : j < (T.getD k []).length) : ((rowsOf T).getD k []).getD j [] = nrow ((T.getD k []).getD j []) := by
  rw [rowsOf_at]; exact map_getD _ _ h [] []
theorem tree_New_rows {l : List Int} (h : UL l) (h0 : 0 < l.length) (h1 : l.length ≤ 64) : Ev (fun k => tree_New.f k l) (rowsOf (ptree l)) := by
  have := tree_New_ev h h0 h1
  rw [lad_ptree] at this
  exact this
theorem Tr.width {l : List Int} {T : List (List (List F))} (h : Tr l T) : ∀ k, k < T.length → (T.getD k []).length ≤ l.length
  | 0, _ => by rw [h.zero]; unfold sing pts; rw [List.length_map, List.length_map]; exact Nat.le_refl _
  | k + 1, hk => by
    have ih := h.width k (by omega)
    have := h.more k hk
    rw [h.up k hk, pabv_length]
    omega

theorem first_diff (a b : List Int) (n : Nat) : (∀ i, i < n → a.getD i 0 = b.getD i 0) ∨ ∃ m, m < n ∧ (∀ i, i < m → a.getD i 0 = b.getD i 0) ∧ a.getD m 0 ≠ b.getD m 0 := by
  induction n with
  | zero => exact .inl (fun i hi => by omega)
  | succ n ih =>
    rcases ih with h | ⟨m, hm, h1, h2⟩
    · by_cases c : a.getD n 0 = b.getD n 0
      · refine .inl (fun i hi => ?_)
        by_cases e : i = n
        · rw [e]; exact c
        · exact h i (by omega)
      · exact .inr ⟨n, by omega, h, c⟩
    · exact .inr ⟨m, by omega, h1, h2⟩
theorem same_of_getD {a b : List Int} (hl : a.length = b.length) (h : ∀ i, i < a.length → a.getD i 0 = b.getD i 0) : a = b := by
  apply List.ext_getElem hl
  intro i h1 h2
  have := h i h1
  rw [List.getD_eq_getElem?_getD, List.getD_eq_getElem?_getD, List.getElem?_eq_getElem h1, List.getElem?_eq_getElem h2] at this
  simpa using this
theorem abacistref04_Same_ev (a b : List Int) (ha : a.length < 4294967296) : Ev (fun k => abacistref04_Same.f k a b) (decide (a = b)) := by
  unfold abacistref04_Same.f
  by_cases hl : a.length = b.length
  · have c0 : (a.length : Int) = (b.length : Int) := by omega
    have round : ∀ i, i < a.length → a.getD i 0 = b.getD i 0 → ∀ r : Bool, Ev (fun k => abacistref04_Same.l0 k a b ((i + 1 : Nat) : Int)) r → Ev (fun k => abacistref04_Same.l0 k a b (i : Int)) r := by
      intro i hi he r ih
      refine Ev.step (fun k => abacistref04_Same.l0.eq_2 ..) ?_
      have c1 : (i : Int) < (a.length : Int) := by omega
      have c2 : (0 : Int) ≤ (i : Int) := by omega
      have c3 : (i : Int) < (b.length : Int) := by omega
      simp -implicitDefEqProofs only [c1, c2, c3, rd_nat, he, if_true, nat64_succ (show i < 9223372036854775807 by omega)]
      exact ih
    simp -implicitDefEqProofs only [c0, if_true]
    rcases first_diff a b a.length with h | ⟨m, hm, h1, h2⟩
    · rw [decide_eq_true (same_of_getD hl h)]
      refine Ev_loop a.length (fun k i => abacistref04_Same.l0 k a b (i : Int)) ?_ (fun i hi ih => round i hi (h i hi) _ ih) 0 (Nat.zero_le _)
      refine Ev.step (fun k => abacistref04_Same.l0.eq_2 ..) ?_
      simp -implicitDefEqProofs only [Int.lt_irrefl, if_false]
      exact Ev.now _
    · have hne : a ≠ b := fun e => h2 (by rw [e])
      rw [decide_eq_false hne]
      refine Ev_loop m (fun k i => abacistref04_Same.l0 k a b (i : Int)) ?_ (fun i hi ih => round i (by omega) (h1 i hi) _ ih) 0 (Nat.zero_le _)
      refine Ev.step (fun k => abacistref04_Same.l0.eq_2 ..) ?_
      have c1 : (m : Int) < (a.length : Int) := by omega
      have c2 : (0 : Int) ≤ (m : Int) := by omega
      have c3 : (m : Int) < (b.length : Int) := by omega
      simp -implicitDefEqProofs only [c1, c2, c3, rd_nat, h2, if_true, if_false]
      exact Ev.now _
  · have c0 : ¬ (a.length : Int) = (b.length : Int) := by omega
    have hne : a ≠ b := fun e => hl (by rw [e])
    simp -implicitDefEqProofs only [c0, if_false, decide_eq_false hne]
    exact Ev.now _
theorem abacistref04_Same_refl (a : List Int) (ha : a.length < 4294967296) : Ev (fun k => abacistref04_Same.f k a a) true := by
  have := abacistref04_Same_ev a a ha
  rw [decide_eq_true rfl] at this; exact this

theorem rd_L2_nat (L : List (List (List Int))) (i : Nat) : rd_L2 L (i : Int) = L.getD i [] := by unfold rd_L2; rw [Int.toNat_natCast]
theorem rd_L1_nat (L : List (List Int)) (i : Nat) : rd_L1 L (i : Int) = L.getD i [] := by unfold rd_L1; rw [Int.toNat_natCast]
/-- A node that is there. -/
theorem tree_Tree_Node_at {ps : List Int} {L : List (List (List Int))} {k i : Nat} (hk : k < L.length) (hi : i < (L.getD k []).length) (hl : ((L.getD k []).getD i []).length < 1000000) :
    tree_Tree_Node.f ps L (k : Int) (i : Int) = some ((L.getD k []).getD i [], 0) := by
  unfold tree_Tree_Node.f
  rw [if_neg (by omega), if_neg (by omega), if_neg (by omega), if_pos (by omega), if_pos (by omega), rd_L2_nat, if_neg (by omega), Option.bind_some, if_pos (by omega), if_pos (by omega), rd_L1_nat, if_pos (by rw [List.length_nil]; omega), List.nil_append]
theorem tree_Tree_Top_at {ps : List Int} {L : List (List (List Int))} {n : Nat} (hn : L.length = n + 1) (h4 : n < 1000000) (hi : 0 < (L.getD n []).length) (hl : ((L.getD n []).getD 0 []).length < 1000000) :
    tree_Tree_Top.f ps L = some ((L.getD n []).getD 0 []) := by
  unfold tree_Tree_Top.f
  have e : wrap64 ((L.length : Int) - 1) = (n : Int) := by rw [wrap64_of (by omega) (by omega)]; omega
  have h0 := tree_Tree_Node_at (ps := ps) (L := L) (k := n) (i := 0) (by omega) hi hl
  rw [show ((0 : Nat) : Int) = 0 from rfl] at h0
  rw [e, h0, Option.bind_some]

theorem abacistlaw33_awake_ev : Ev (fun k => abacistlaw33_awake.f k) true := by
  unfold abacistlaw33_awake.f
  have hA := tree_New_ev (l := [1, 2]) (UL_cons U_one (UL_cons ⟨by decide, by decide⟩ UL_nil)) (by decide) (by decide)
  refine Ev.bind hA ?_
  have e : lad [1, 2].length (leaves [1, 2]) = [[[18446744069414584320, 1], [18446744069414584319, 1]], [[2, 18446744069414584318, 1]]] := by decide +kernel
  have hT := tree_Tree_Top_at (ps := hk_ofs [1, 2]) (L := lad [1, 2].length (leaves [1, 2])) (n := 1) (by rw [e]; rfl) (by decide) (by rw [e]; decide) (by rw [e]; decide)
  refine Ev.bind ⟨0, fun _ _ => hT⟩ ?_
  rw [e]
  exact abacistref04_Same_refl _ (by decide)

theorem abacistref02_Of_eq {a : Int} (h : 0 ≤ a) : abacistref02_Of.f a = some (un (cv a)) := by
  unfold abacistref02_Of.f
  rw [un_cv, Int.tmod_eq_emod_of_nonneg h]

theorem abacistref02_Add_eq {a b : Int} (ha : 0 ≤ a) (hb : 0 ≤ b) : abacistref02_Add.f a b = some (un (cv a + cv b)) := by
  unfold abacistref02_Add.f
  rw [abacistref02_Of_eq ha, abacistref02_Of_eq hb]
  simp only [Option.bind_some]
  have h0 := un_lo (cv a); have h1 := un_hi (cv a); have h2 := un_lo (cv b); have h3 := un_hi (cv b)
  rw [un_add]
  simp only [wu64]
  have e : (18446744069414584321 - un (cv b)) % 18446744073709551616 = 18446744069414584321 - un (cv b) := by omega
  rw [e]
  split <;> congr 1 <;> omega

theorem abacistref02_Mul_l0_ev : ∀ (m : Nat) (n : Nat) (x y : F), n < 2 ^ m → n < 18446744073709551616 → Ev (fun k => abacistref02_Mul.l0 k (un x) (n : Int) (un y)) (un (y + x * cv n))
  | 0, n, x, y, h, _ => by
    obtain rfl : n = 0 := by simpa using h
    refine Ev.step (f := fun _ => some (un y)) (fun k => ?_) ?_
    · simp only [abacistref02_Mul.l0]; rw [if_neg (by omega)]
    · have : y + x * cv ((0 : Nat) : Int) = y := by rw [show cv ((0 : Nat) : Int) = 0 from rfl]; grind
      rw [this]; exact Ev.now _
  | m + 1, n, x, y, h, hn => by
    have hm : n / 2 < 2 ^ m := by rw [Nat.pow_succ] at h; omega
    have e2 : IntKind.u64.wrap (Int.tdiv (n : Int) 2) = ((n / 2 : Nat) : Int) := by
      rw [Int.tdiv_eq_ediv_of_nonneg (by omega), wu64]; omega
    by_cases h0 : n = 0
    · subst h0
      refine Ev.step (f := fun _ => some (un y)) (fun k => ?_) ?_
      · simp only [abacistref02_Mul.l0]; rw [if_neg (by omega)]
      · have : y + x * cv ((0 : Nat) : Int) = y := by rw [show cv ((0 : Nat) : Int) = 0 from rfl]; grind
        rw [this]; exact Ev.now _
    · have em : Int.tmod (n : Int) 2 = (n : Int) % 2 := Int.tmod_eq_emod_of_nonneg (by omega)
      by_cases h1 : n % 2 = 1
      · refine Ev.step (f := fun k => abacistref02_Mul.l0 k (un (x + x)) ((n / 2 : Nat) : Int) (un (y + x))) (fun k => ?_) ?_
        · simp only [abacistref02_Mul.l0]
          rw [if_pos (by omega), em, if_pos (by omega), abacistref02_Add_eq (un_lo _) (un_lo _), abacistref02_Add_eq (un_lo _) (un_lo _), e2]
          simp only [Option.bind_some, cv_un]
        · have ih := abacistref02_Mul_l0_ev m (n / 2) (x + x) (y + x) hm (by omega)
          have e : y + x + (x + x) * cv ((n / 2 : Nat) : Int) = y + x * cv n := by
            have : (n : Int) = (1 + (((n / 2 : Nat) : Int) + ((n / 2 : Nat) : Int))) := by omega
            rw [this, cv_add, cv_add, cv_one]; grind
          rw [e] at ih; exact ih
      · refine Ev.step (f := fun k => abacistref02_Mul.l0 k (un (x + x)) ((n / 2 : Nat) : Int) (un y)) (fun k => ?_) ?_
        · simp only [abacistref02_Mul.l0]
          rw [if_pos (by omega), em, if_neg (by omega), abacistref02_Add_eq (un_lo _) (un_lo _), e2]
          simp only [Option.bind_some, cv_un]
        · have ih := abacistref02_Mul_l0_ev m (n / 2) (x + x) y hm (by omega)
          have e : y + (x + x) * cv ((n / 2 : Nat) : Int) = y + x * cv n := by
            have : (n : Int) = (((n / 2 : Nat) : Int) + ((n / 2 : Nat) : Int)) := by omega
            rw [this, cv_add]; grind
          rw [e] at ih; exact ih
theorem abacistref02_Mul_ev {a n : Int} (ha : 0 ≤ a) (hn : U n) : Ev (fun k => abacistref02_Mul.f k a n) (un (cv a * cv n)) := by
  have h := abacistref02_Mul_l0_ev 64 n.toNat (cv a) 0 (by have := hn.2; omega) (by have := hn.2; omega)
  rw [un_zero, Int.toNat_of_nonneg hn.1] at h
  have e : 0 + cv a * cv n = cv a * cv n := by grind
  rw [e] at h
  refine Ev.congr (fun k => ?_) h
  unfold abacistref02_Mul.f
  rw [abacistref02_Of_eq ha]; rfl

theorem abacistref07_At_ev {l : List Int} (h : UL l) (hl : l.length < 4294967296) {x : Int} (hx : U x) : Ev (fun k => abacistref07_At.f k l x) (un (ev l.length (co l) (cv x))) := by
  unfold abacistref07_At.f
  have e1 : (1 : Int) = un (cv x ^ 0) := by rw [show cv x ^ 0 = 1 by grind, un_one]
  rw [e1]
  refine Ev_loop l.length (fun k i => abacistref07_At.l0 k l x (un (ev i (co l) (cv x))) (un (cv x ^ i)) (i : Int)) ?_ (fun i hi ih => ?_) 0 (Nat.zero_le _)
  · refine Ev.step (fun k => abacistref07_At.l0.eq_2 ..) ?_
    simp -implicitDefEqProofs only [Int.lt_irrefl, if_false]
    exact Ev.now _
  · refine Ev.step (fun k => abacistref07_At.l0.eq_2 ..) ?_
    have c1 : (i : Int) < (l.length : Int) := by omega
    have c2 : (0 : Int) ≤ (i : Int) := by omega
    simp -implicitDefEqProofs only [c1, c2, if_true]
    refine Ev.bind (abacistref02_Mul_ev (U_rd h _).1 (U_un _)) ?_
    simp -implicitDefEqProofs only [abacistref02_Add_eq (un_lo _) (un_lo _), Option.bind_some, cv_un, cv_rd]
    refine Ev.bind (abacistref02_Mul_ev (un_lo _) hx) ?_
    have es : cv x ^ i * cv x = cv x ^ (i + 1) := by grind
    have e2 : ev i (co l) (cv x) + co l i * cv x ^ i = ev (i + 1) (co l) (cv x) := rfl
    simp -implicitDefEqProofs only [cv_un, es, e2, nat64_succ (show i < 9223372036854775807 by omega)]
    exact ih

theorem abacistref07_Trim_ev {l : List Int} (h : UL l) (hl : l.length < 4294967296) : Ev (fun k => abacistref07_Trim.f k l) (tr l.length (co l)) := by
  unfold abacistref07_Trim.f
  refine Ev_loop l.length (fun k i => abacistref07_Trim.l0 k l (dg i (co l) : Int) (i : Int)) ?_ (fun i hi ih => ?_) 0 (Nat.zero_le _)
  · refine Ev.step (fun k => abacistref07_Trim.l0.eq_2 ..) ?_
    simp -implicitDefEqProofs only [Int.lt_irrefl, if_false]
    have hd := dg_le l.length (co l)
    unfold tr
    generalize dg l.length (co l) = d at *
    refine Ev_loop d (fun k i => abacistref07_Trim.l1 k l (d : Int) (tab i (co l)) (i : Int)) ?_ (fun i hi ih => ?_) 0 (Nat.zero_le _)
    · refine Ev.step (fun k => abacistref07_Trim.l1.eq_2 ..) ?_
      simp -implicitDefEqProofs only [Int.lt_irrefl, if_false]
      exact Ev.now _
    · refine Ev.step (fun k => abacistref07_Trim.l1.eq_2 ..) ?_
      have c3 : (i : Int) < (d : Int) := by omega
      have c4 : (0 : Int) ≤ (i : Int) := by omega
      have c5 : i < 17592186044416 := by omega
      have c6 : (i : Int) < (l.length : Int) := by omega
      simp -implicitDefEqProofs only [c3, c4, c5, c6, tab_length, if_true, abacistref02_Of_eq (U_rd h _).1, Option.bind_some, cv_rd, ← tab_succ, nat64_succ (show i < 9223372036854775807 by omega)]
      exact ih
  · refine Ev.step (fun k => abacistref07_Trim.l0.eq_2 ..) ?_
    have c1 : (i : Int) < (l.length : Int) := by omega
    have c2 : (0 : Int) ≤ (i : Int) := by omega
    simp -implicitDefEqProofs only [c1, c2, if_true, abacistref02_Of_eq (U_rd h _).1, Option.bind_some, cv_rd, nat64_succ (show i < 9223372036854775807 by omega)]
    rw [show dg (i + 1) (co l) = if co l i = 0 then dg i (co l) else i + 1 from rfl] at ih
    by_cases c : co l i = 0
    · rw [if_pos c] at ih
      rw [c, un_zero]
      simp -implicitDefEqProofs only [if_true]
      exact ih
    · have c' : ¬ un (co l i) = 0 := fun h => c (un_eq_zero.1 h)
      rw [if_neg c] at ih
      simp -implicitDefEqProofs only [c', if_false]
      exact ih

/-- A row whose outer words, so many on each side, have changed places. -/
def rvst (n i : Nat) (f : Nat → F) (p : Nat) : F := if p < i ∨ n - 1 - p < i then f (n - 1 - p) else f p
theorem rvst_step {n i : Nat} (h : 2 * i + 1 < n) (f : Nat → F) : ((tab n (rvst n i f)).set i (un (rvst n i f (n - 1 - i)))).set (n - 1 - i) (un (rvst n i f i)) = tab n (rvst n (i + 1) f) := by
  rw [tab_set, tab_set]
  refine tab_congr (fun p hp => ?_)
  have e1 : rvst n i f (n - 1 - i) = f (n - 1 - i) := if_neg (by omega)
  have e2 : rvst n i f i = f i := if_neg (by omega)
  rw [e1, e2]
  by_cases c1 : p = n - 1 - i
  · rw [if_pos c1]
    unfold rvst
    rw [if_pos (by omega)]
    congr 1; omega
  · rw [if_neg c1]
    by_cases c2 : p = i
    · rw [if_pos c2]
      unfold rvst
      rw [if_pos (by omega)]
      congr 1; omega
    · rw [if_neg c2]
      unfold rvst
      by_cases c3 : p < i ∨ n - 1 - p < i
      · rw [if_pos c3, if_pos (by omega)]
      · rw [if_neg c3, if_neg (by omega)]
theorem slices_Reverse_ev {n : Nat} (hn : n ≤ 1048576) (f : Nat → F) : Ev (fun k => slices_Reverse_uint64_uint64.f k (tab n f)) (tab n (fun i => f (n - 1 - i))) := by
  unfold slices_Reverse_uint64_uint64.f
  rw [tab_length]
  have e0 : tab n f = tab n (rvst n 0 f) := tab_congr (fun p hp => (if_neg (by omega)).symm)
  have e1 : wrap64 ((n : Int) - 1) = (n : Int) - 1 - ((0 : Nat) : Int) := by rw [wrap64_of (by omega) (by omega)]; omega
  rw [e1, e0]
  refine Ev_loop (n / 2) (fun k i => slices_Reverse_uint64_uint64.l0 k (tab n (rvst n i f)) (i : Int) ((n : Int) - 1 - (i : Int))) ?_ (fun i hi ih => ?_) 0 (Nat.zero_le _)
  · refine Ev.step (fun k => slices_Reverse_uint64_uint64.l0.eq_2 ..) ?_
    simp -implicitDefEqProofs only [show ¬ ((n / 2 : Nat) : Int) < (n : Int) - 1 - ((n / 2 : Nat) : Int) by omega, if_false]
    have e : tab n (rvst n (n / 2) f) = tab n (fun i => f (n - 1 - i)) := tab_congr (fun p hp => by
      unfold rvst
      by_cases c : p < n / 2 ∨ n - 1 - p < n / 2
      · rw [if_pos c]
      · rw [if_neg c]; congr 1; omega)
    rw [e]
    exact Ev.now _
  · refine Ev.step (fun k => slices_Reverse_uint64_uint64.l0.eq_2 ..) ?_
    obtain ⟨j, hj⟩ : ∃ j : Nat, j = n - 1 - i := ⟨_, rfl⟩
    have ej : (n : Int) - 1 - (i : Int) = (j : Int) := by omega
    have ew : wrap64 ((j : Int) - 1) = (n : Int) - 1 - ((i + 1 : Nat) : Int) := by rw [wrap64_of (by omega) (by omega)]; omega
    simp -implicitDefEqProofs only [ej, tab_length, show (i : Int) < (j : Int) by omega, show (0 : Int) ≤ (j : Int) by omega, show (j : Int) < (n : Int) by omega, show (0 : Int) ≤ (i : Int) by omega, show (i : Int) < (n : Int) by omega, if_true, Int.toNat_natCast, rd_tab (show j < n by omega), rd_tab (show i < n by omega), ew, nat64_succ (show i < 9223372036854775807 by omega)]
    rw [hj, rvst_step (by omega)]
    exact ih

theorem series_turned_ev {n : Nat} (hn : n ≤ 1048576) (f : Nat → F) : Ev (fun k => series_turned.f k (tab n f)) (tab n (fun i => f (n - 1 - i))) := by
  unfold series_turned.f
  refine Ev.bind (slices_Clone_ev (by rw [tab_length]; exact hn)) ?_
  refine Ev.bind (slices_Reverse_ev hn f) ?_
  exact Ev.now _

theorem cut_state (l : List Int) (n i : Nat) (hi : i < n) : (tab n (fun j => if j < i then co l j else 0)).set i (un (co l i)) = tab n (fun j => if j < i + 1 then co l j else 0) := by
  rw [tab_set]
  refine tab_congr (fun j hj => ?_)
  by_cases e : j = i
  · rw [if_pos e, if_pos (by omega), e]
  · rw [if_neg e]
    by_cases d : j < i
    · rw [if_pos d, if_pos (by omega)]
    · rw [if_neg d, if_neg (by omega)]
theorem cut_done (l : List Int) (n m : Nat) (hm : l.length ≤ m ∨ n ≤ m) : tab n (fun j => if j < m then co l j else 0) = tab n (co l) := tab_congr (fun j hj => by
  by_cases d : j < m
  · rw [if_pos d]
  · rw [if_neg d, co_out (by omega)])
theorem series_cut_ev {l : List Int} (h : UL l) {n : Nat} (hn : n ≤ 1048576) (hl : l.length < 4294967296) : Ev (fun k => series_cut.f k l (n : Int)) (tab n (co l)) := by
  unfold series_cut.f
  have d1 : (0 : Int) ≤ (n : Int) := by omega
  have d2 : n ≤ 35184372088832 := by omega
  have em : mn (n : Int) (l.length : Int) = ((min n l.length : Nat) : Int) := by unfold mn; split <;> omega
  simp -implicitDefEqProofs only [d1, d2, if_true, Int.toNat_natCast, replicate_tab, em]
  have e0 : tab n (fun _ => (0 : F)) = tab n (fun j => if j < 0 then co l j else 0) := tab_congr (fun j _ => (if_neg (by omega)).symm)
  rw [e0]
  refine Ev_loop (min n l.length) (fun k i => series_cut.l0 k l (tab n (fun j => if j < i then co l j else 0)) ((min n l.length : Nat) : Int) (i : Int)) ?_ (fun i hi ih => ?_) 0 (Nat.zero_le _)
  · refine Ev.step (fun k => series_cut.l0.eq_2 ..) ?_
    simp -implicitDefEqProofs only [Int.lt_irrefl, if_false]
    rw [cut_done l n (min n l.length) (by omega)]
    exact Ev.now _
  · refine Ev.step (fun k => series_cut.l0.eq_2 ..) ?_
    have c1 : (i : Int) < ((min n l.length : Nat) : Int) := by omega
    have c2 : (0 : Int) ≤ (i : Int) := by omega
    have c3 : (i : Int) < (l.length : Int) := by omega
    have c4 : (i : Int) < (n : Int) := by omega
    simp -implicitDefEqProofs only [c1, c2, c3, c4, tab_length, if_true, gold_Of_eq (U_rd h _), Option.bind_some, cv_rd, Int.toNat_natCast, cut_state l n i (by omega), nat64_succ (show i < 9223372036854775807 by omega)]
    exact ih

theorem series_mul_ev {p q : List Int} (hp : UL p) (hq : UL q) {n : Nat} (hn : n ≤ 65536) (hl : p.length < 4294967296) (hl2 : q.length < 4294967296) : Ev (fun k => series_mul.f k p q (n : Int)) (tab n (cvl (co p) (co q))) := by
  unfold series_mul.f
  have em : mn (p.length : Int) (n : Int) = ((min p.length n : Nat) : Int) := by unfold mn; split <;> omega
  have em2 : mn (q.length : Int) (n : Int) = ((min q.length n : Nat) : Int) := by unfold mn; split <;> omega
  have c1 : (0 : Int) ≤ ((min p.length n : Nat) : Int) := by omega
  have c2 : ((min p.length n : Nat) : Int) ≤ (p.length : Int) := by omega
  have c3 : (0 : Int) ≤ ((min q.length n : Nat) : Int) := by omega
  have c4 : ((min q.length n : Nat) : Int) ≤ (q.length : Int) := by omega
  simp -implicitDefEqProofs only [em, em2, c1, c2, c3, c4, if_true, Int.toNat_natCast]
  have hL : ∀ r ∈ [p.take (min p.length n), q.take (min q.length n)], UL r := by
    intro r hr
    rcases List.mem_cons.1 hr with rfl | hr
    · exact UL_take hp _
    · rw [List.mem_singleton.1 hr]; exact UL_take hq _
  have lp : (p.take (min p.length n)).length ≤ n := by rw [List.length_take]; omega
  have lq : (q.take (min q.length n)).length ≤ n := by rw [List.length_take]; omega
  have ht : tot [p.take (min p.length n), q.take (min q.length n)] 2 < 524288 := by
    show 0 + (p.take (min p.length n)).length + (q.take (min q.length n)).length < 524288
    omega
  refine Ev.bind (conv_Product_ev hL (by simp) ht) ?_
  have hu := pst_UL [p.take (min p.length n), q.take (min q.length n)] 2
  have hlen := pst_length [p.take (min p.length n), q.take (min q.length n)] 2
  show Ev (fun k => (series_cut.f k (pst [p.take (min p.length n), q.take (min q.length n)] 2) (n : Int)).bind fun t => some t) _
  refine Ev.bind (series_cut_ev hu (by omega) (by omega)) ?_
  have ec : co (pst [p.take (min p.length n), q.take (min q.length n)] 2) = cvl (co (p.take (min p.length n))) (co (q.take (min q.length n))) := by
    show co (pmul (pmul [1] (p.take (min p.length n))) (q.take (min q.length n))) = _
    rw [(pmul_any _ _).co, (pmul_any _ _).co, pone_row.co]
    exact funext (fun k => cvl_fun (fun i => pone_cvl _ i) (fun _ => rfl) k)
  have tk : ∀ (r : List Int) (i : Nat), i < n → co (r.take (min r.length n)) i = co r i := fun r i hi => by
    rcases Nat.lt_or_ge i r.length with h | h
    · exact co_take (by omega)
    · rw [co_out h, co_out (by rw [List.length_take]; omega)]
  rw [ec, tab_congr (g := cvl (co p) (co q)) (fun i hi => cvl_upto (n := n) (fun j hj => tk p j hj) (fun j hj => tk q j hj) hi)]
  exact Ev.now _

theorem series_first_eq {l : List Int} (h : UL l) : series_first.f l = some (un (co l 0)) := by
  unfold series_first.f
  by_cases c : l.length = 0
  · rw [if_pos (by omega), co_out (by omega), un_zero]
  · rw [if_neg (by omega), if_pos (by omega), gold_Of_eq (U_rd h _), Option.bind_some]
    rfl

theorem hk_negs_tab {n : Nat} (f : Nat → F) : ∀ i, i ≤ n → hk_negs (tab n f) i = some (tab n (fun j => if j < i then - f j else f j))
  | 0, _ => by
    unfold hk_negs
    exact congrArg some (tab_congr (fun j _ => (if_neg (by omega)).symm))
  | i + 1, hi => by
    unfold hk_negs
    rw [hk_negs_tab f i (by omega), Option.bind_some, rd_tab (show i < n by omega), if_neg (by omega), gold_Neg_eq (U_un _), Option.bind_some, cv_un, tab_set]
    refine congrArg some (tab_congr (fun j hj => ?_))
    by_cases e : j = i
    · rw [if_pos e, if_pos (by omega), e]
    · rw [if_neg e]
      by_cases d : j < i
      · rw [if_pos d, if_pos (by omega)]
      · rw [if_neg d, if_neg (by omega)]
theorem cv_two : cv 2 = (2 : F) := by decide +kernel
/-- A step of the doubling. -/
theorem hk_invStep_ev {p : List Int} (hp : UL p) (hl : p.length < 4294967296) {L m : Nat} {S : Nat → F} (h0 : 0 < m) (hm : m ≤ 65536) (hmL : m ≤ 2 * L) (hL : L ≤ 65536) (hS : ∀ i, i < L → cvl (co p) S i = pone i) (hout : ∀ i, L ≤ i → S i = 0) :
    ∃ S2 : Nat → F, (∀ i, i < m → cvl (co p) S2 i = pone i) ∧ (∀ i, m ≤ i → S2 i = 0) ∧ Ev (fun k => hk_invStep k p (tab L S) (m : Int)) (tab m S2) := by
  have es : co (tab L S) = S := funext (fun i => by
    rw [co_tab]
    by_cases c : i < L
    · rw [if_pos c]
    · rw [if_neg c, hout i (by omega)])
  obtain ⟨U, hU⟩ : ∃ U : Nat → F, ∀ i, U i = if i < m then (if i = 0 then 2 - cvl (co p) S 0 else - cvl (co p) S i) else 0 := ⟨_, fun _ => rfl⟩
  have hU2 : ∀ i, i < m → U i = pone i + (pone i - cvl (co p) S i) := fun i hi => by
    rw [hU, if_pos hi]
    by_cases c : i = 0
    · subst c
      rw [if_pos rfl, show pone 0 = 1 from if_pos rfl]; exact k1 _
    · rw [if_neg c, show pone i = 0 from if_neg c]; exact k2 _
  refine ⟨cut m (cvl S U), fun i hi => ?_, fun i hi => cut_out _ i hi, ?_⟩
  · rw [cvl_upto (n := m) (f' := co p) (g' := cvl S U) (fun _ _ => rfl) (fun j hj => cut_in _ hj) hi]
    exact newton hmL hS hU2 hi
  · unfold hk_invStep
    refine Ev.bind (series_mul_ev hp (UL_tab _ _) hm hl (by rw [tab_length]; omega)) ?_
    rw [es]
    have hn : hk_negs (tab m (cvl (co p) S)) (tab m (cvl (co p) S)).length = some (tab m (fun j => - cvl (co p) S j)) := by
      rw [tab_length, hk_negs_tab _ m (Nat.le_refl _)]
      exact congrArg some (tab_congr (fun j hj => if_pos hj))
    have c0 : 0 < (tab m (cvl (co p) S)).length := by rw [tab_length]; exact h0
    simp -implicitDefEqProofs only [hn, Option.bind_some, if_pos c0]
    have hr : rd (tab m (fun j => - cvl (co p) S j)) 0 = un (- cvl (co p) S 0) := rd_tab (i := 0) h0
    rw [hr, gold_Add_eq (U_un _) ⟨by omega, by omega⟩]
    simp -implicitDefEqProofs only [Option.bind_some, cv_un, cv_two]
    have hset : (tab m (fun j => - cvl (co p) S j)).set 0 (un (- cvl (co p) S 0 + 2)) = tab m U := by
      rw [tab_set]
      refine tab_congr (fun j hj => ?_)
      rw [hU, if_pos hj]
      by_cases c : j = 0
      · rw [if_pos c, if_pos c]; exact k3 _
      · rw [if_neg c, if_neg c]
    rw [hset]
    have e := series_mul_ev (p := tab L S) (q := tab m U) (UL_tab _ _) (UL_tab _ _) hm (by rw [tab_length]; omega) (by rw [tab_length]; omega)
    have e3 : tab m (cvl S (co (tab m U))) = tab m (cut m (cvl S U)) := tab_congr (fun i hi => by
      rw [cut_in _ hi]
      exact cvl_upto (n := m) (fun _ _ => rfl) (fun j hj => co_tab_lt hj) hi)
    rw [es, e3] at e
    exact e
where
  k1 {R : Nat} [NeZero R] (x : Fin R) : 2 - x = 1 + (1 - x) := by grind
  k2 {R : Nat} [NeZero R] (x : Fin R) : - x = 0 + (0 - x) := by grind
  k3 {R : Nat} [NeZero R] (x : Fin R) : - x + 2 = 2 - x := by grind
theorem hk_lng_ev {p : List Int} (hp : UL p) (hl : p.length < 4294967296) {n : Nat} (hn : n ≤ 65536) : ∀ (j t : Nat), j + t = 20 → t ≤ 16 → ∀ S : Nat → F, (∀ i, i < 2 ^ t → cvl (co p) S i = pone i) → (∀ i, 2 ^ t ≤ i → S i = 0) →
    ∃ (L : Nat) (S2 : Nat → F), n ≤ L ∧ L ≤ 65536 ∧ (∀ i, i < L → cvl (co p) S2 i = pone i) ∧ (∀ i, L ≤ i → S2 i = 0) ∧ Ev (fun k => hk_lng (hk_invStep k p) (n : Int) j (tab (2 ^ t) S) ((2 ^ (t + 1) : Nat) : Int)) (tab L S2)
  | 0, t, hjt, ht, _, _, _ => by omega
  | j + 1, t, hjt, ht, S, hS, hout => by
    have hp2 := two_pow_lt (n := t) (m := 16) ht
    have hpt := Nat.two_pow_pos t
    have hps : 2 ^ (t + 1) = 2 * 2 ^ t := by rw [Nat.pow_succ]; omega
    by_cases c : 2 ^ t < n
    · have ht15 : t ≤ 15 := by
        rcases Nat.lt_or_ge 15 t with h | h
        · have : t = 16 := by omega
          subst this; omega
        · exact h
      have hp3 := two_pow_lt (n := t + 1) (m := 16) (by omega)
      have ew : wrap64 (((2 ^ (t + 1) : Nat) : Int) * 2) = ((2 ^ (t + 1 + 1) : Nat) : Int) := by
        rw [Nat.pow_succ 2 (t + 1)]
        generalize 2 ^ (t + 1) = q at hp3 ⊢
        rw [wrap64_of (by omega) (by omega)]; omega
      have cl : (((tab (2 ^ t) S).length : Nat) : Int) < (n : Int) := by rw [tab_length]; exact Int.ofNat_lt.2 c
      by_cases d : n < 2 ^ (t + 1)
      · obtain ⟨S2, h1, h2, h3⟩ := hk_invStep_ev hp hl (L := 2 ^ t) (m := n) (by omega) hn (by omega) (by omega) hS hout
        refine ⟨n, S2, Nat.le_refl _, hn, h1, h2, ?_⟩
        have em : mn ((2 ^ (t + 1) : Nat) : Int) (n : Int) = (n : Int) := if_pos (Int.ofNat_lt.2 d)
        cases j with
        | zero => omega
        | succ j =>
          unfold hk_lng
          simp -implicitDefEqProofs only [if_pos cl, em]
          refine Ev.bind h3 ?_
          unfold hk_lng
          simp -implicitDefEqProofs only [tab_length, Int.lt_irrefl, if_false]
          exact Ev.now _
      · obtain ⟨S2, h1, h2, h3⟩ := hk_invStep_ev hp hl (L := 2 ^ t) (m := 2 ^ (t + 1)) (by omega) (by omega) (by omega) (by omega) hS hout
        obtain ⟨L, S3, g1, g2, g3, g4, g5⟩ := hk_lng_ev hp hl hn j (t + 1) (by omega) (by omega) S2 h1 h2
        refine ⟨L, S3, g1, g2, g3, g4, ?_⟩
        have em : mn ((2 ^ (t + 1) : Nat) : Int) (n : Int) = ((2 ^ (t + 1) : Nat) : Int) := if_neg (fun h => d (Int.ofNat_lt.1 h))
        unfold hk_lng
        simp -implicitDefEqProofs only [if_pos cl, em, ew]
        refine Ev.bind h3 ?_
        exact g5
    · refine ⟨2 ^ t, S, by omega, by omega, hS, hout, ?_⟩
      have cl : ¬ (((tab (2 ^ t) S).length : Nat) : Int) < (n : Int) := by rw [tab_length]; exact fun h => c (Int.ofNat_lt.1 h)
      unfold hk_lng
      simp -implicitDefEqProofs only [if_neg cl]
      exact Ev.now _
theorem series_inv_ev {p : List Int} (hp : UL p) (hl : p.length < 4294967296) {n : Nat} (hn : n ≤ 65536) (h0 : co p 0 ≠ 0) : ∃ S : Nat → F, (∀ i, i < n → cvl (co p) S i = pone i) ∧ Ev (fun k => series_inv.f k p (n : Int)) (tab n S) := by
  have hS : ∀ i, i < 2 ^ 0 → cvl (co p) (fun i => if i = 0 then inv (co p 0) else 0) i = pone i := fun i hi => by
    obtain rfl : i = 0 := by omega
    rw [cvl_first]
    show co p 0 * (if (0 : Nat) = 0 then inv (co p 0) else 0) + 0 = (if (0 : Nat) = 0 then (1 : F) else 0)
    rw [if_pos rfl, if_pos rfl, mul_inv h0]
    exact k1 _
  obtain ⟨L, S, h1, h2, h3, h4, h5⟩ := hk_lng_ev hp hl hn 20 0 (by omega) (by omega) _ hS (fun i hi => if_neg (by omega))
  refine ⟨S, fun i hi => h3 i (by omega), ?_⟩
  unfold series_inv.f
  rw [series_first_eq hp]
  simp -implicitDefEqProofs only [Option.bind_some]
  refine Ev.bind (gold_Inv_ev (U_un _)) ?_
  have e0 : tab (2 ^ 0) (fun i => if i = 0 then inv (co p 0) else 0) = [un (inv (co p 0))] := by
    show tab (0 + 1) _ = _
    rw [tab_succ, tab_nil, if_pos rfl]; rfl
  rw [e0] at h5
  simp -implicitDefEqProofs only [cv_un]
  refine Ev.bind h5 ?_
  have e := series_cut_ev (l := tab L S) (UL_tab _ _) (n := n) (by omega) (by rw [tab_length]; omega)
  rw [tab_congr (g := S) (fun i hi => co_tab_lt (by omega))] at e
  exact e
where
  k1 {R : Nat} [NeZero R] (x : Fin R) : x + (0 : Fin R) = x := by grind

def lng : List (List Int) → Nat → Nat
  | _, 0 => 0
  | ls, n + 1 => max (lng ls n) (ls.getD n []).length
theorem lng_le {ls : List (List Int)} {N : Nat} (h : ∀ l ∈ ls, l.length ≤ N) (n : Nat) : lng ls n ≤ N := by
  induction n with
  | zero => exact Nat.zero_le _
  | succ n ih =>
    have : (ls.getD n []).length ≤ N := by
      rw [List.getD_eq_getElem?_getD]
      by_cases hn : n < ls.length
      · rw [List.getElem?_eq_getElem hn]; exact h _ (List.getElem_mem hn)
      · rw [List.getElem?_eq_none (by omega)]; exact Nat.zero_le _
    show max (lng ls n) (ls.getD n []).length ≤ N
    omega
theorem rdl_nat (ls : List (List Int)) (i : Nat) : rd_L1 ls (i : Int) = ls.getD i [] := by unfold rd_L1; rw [Int.toNat_natCast]
theorem poly_longest_ev {ls : List (List Int)} (hn : ls.length < 4294967296) (hl : ∀ l ∈ ls, l.length < 4294967296) : Ev (fun k => poly_longest.f k ls) (lng ls ls.length : Int) := by
  unfold poly_longest.f
  refine Ev_loop ls.length (fun k i => poly_longest.l0 k (lng ls i : Int) ls (ls.length : Int) (i : Int)) ?_ (fun i hi ih => ?_) 0 (Nat.zero_le _)
  · refine Ev.step (fun k => poly_longest.l0.eq_2 ..) ?_
    simp -implicitDefEqProofs only [Int.lt_irrefl, if_false]
    exact Ev.now _
  · refine Ev.step (fun k => poly_longest.l0.eq_2 ..) ?_
    have c1 : (i : Int) < (ls.length : Int) := by omega
    have c2 : (0 : Int) ≤ (i : Int) := by omega
    have e : mx (lng ls i : Int) ((ls.getD i []).length : Int) = (lng ls (i + 1) : Int) := by
      show _ = ((max (lng ls i) (ls.getD i []).length : Nat) : Int)
      unfold mx; omega
    simp -implicitDefEqProofs only [c1, c2, if_true, rdl_nat, e, nat64_succ (show i < 9223372036854775807 by omega)]
    exact ih

theorem poly_coefficient_eq (l : List Int) (i : Nat) : poly_coefficient.f l (i : Int) = some (l.getD i 0) := by
  unfold poly_coefficient.f
  by_cases c : (i : Int) < (l.length : Int)
  · rw [if_pos c, if_pos (show (0 : Int) ≤ (i : Int) by omega), rd_nat]
  · rw [if_neg c, List.getD_eq_getElem?_getD, List.getElem?_eq_none (by omega)]; rfl

def sumc (ls : List (List Int)) (n i : Nat) : F := Sm n (fun m => co (ls.getD m []) i)
theorem UL_getl {ls : List (List Int)} (h : ∀ l ∈ ls, UL l) (n : Nat) : UL (ls.getD n []) := by
  rw [List.getD_eq_getElem?_getD]
  by_cases hn : n < ls.length
  · rw [List.getElem?_eq_getElem hn]; exact h _ (List.getElem_mem hn)
  · rw [List.getElem?_eq_none (by omega)]; exact UL_nil
theorem poly_Add_ev {ls : List (List Int)} (hn : ls.length < 4294967296) (hu : ∀ l ∈ ls, UL l) (hl : ∀ l ∈ ls, l.length < 4294967296) : Ev (fun k => poly_Add.f k ls) (tr (lng ls ls.length) (sumc ls ls.length)) := by
  unfold poly_Add.f
  refine Ev.bind (poly_longest_ev hn hl) ?_
  have hN : lng ls ls.length ≤ 4294967295 := lng_le (fun l hh => by have := hl l hh; omega) _
  generalize hM : lng ls ls.length = M at *
  have d1 : (0 : Int) ≤ (M : Int) := by omega
  have d2 : M ≤ 35184372088832 := by omega
  simp -implicitDefEqProofs only [d1, d2, if_true, Int.toNat_natCast, Option.bind_some, replicate_tab, tab_length]
  have e0 : tab M (fun _ => (0 : F)) = tab M (fun j => if j < 0 then sumc ls ls.length j else 0) := tab_congr (fun j hj => by rw [if_neg (by omega)])
  rw [e0]
  refine Ev_loop M (fun k i => poly_Add.l0 k ls (tab M (fun j => if j < i then sumc ls ls.length j else 0)) (M : Int) (i : Int)) ?_ (fun i hi ihi => ?_) 0 (Nat.zero_le _)
  · refine Ev.step (fun k => poly_Add.l0.eq_2 ..) ?_
    simp -implicitDefEqProofs only [Int.lt_irrefl, if_false]
    refine Ev.bind (poly_Trim_ev (UL_tab _ _) (by rw [tab_length]; omega)) ?_
    rw [tab_length, tr_congr (g := sumc ls ls.length) (fun i hi => by rw [co_tab_lt hi, if_pos hi])]
    exact Ev.now _
  · refine Ev.step (fun k => poly_Add.l0.eq_2 ..) ?_
    have c1 : (i : Int) < (M : Int) := by omega
    simp -implicitDefEqProofs only [c1, if_true]
    have start : tab M (fun j => if j < i then sumc ls ls.length j else 0) = tab M (fun j => if j = i then sumc ls 0 i else if j < i then sumc ls ls.length j else 0) := tab_congr (fun j _ => by
      by_cases e : j = i
      · rw [if_pos e, if_neg (by omega)]; rfl
      · rw [if_neg e])
    rw [start]
    refine Ev_loop ls.length (fun k m => poly_Add.l1 k ls (tab M (fun j => if j = i then sumc ls m i else if j < i then sumc ls ls.length j else 0)) (i : Int) (M : Int) (i : Int) ls (ls.length : Int) (m : Int)) ?_ (fun m hm ih => ?_) 0 (Nat.zero_le _)
    · refine Ev.step (fun k => poly_Add.l1.eq_2 ..) ?_
      have e : tab M (fun j => if j = i then sumc ls ls.length i else if j < i then sumc ls ls.length j else 0) = tab M (fun j => if j < i + 1 then sumc ls ls.length j else 0) := tab_congr (fun j _ => by
        by_cases e : j = i
        · rw [if_pos e, if_pos (by omega), e]
        · rw [if_neg e]
          by_cases h : j < i
          · rw [if_pos h, if_pos (by omega)]
          · rw [if_neg h, if_neg (by omega)])
      simp -implicitDefEqProofs only [Int.lt_irrefl, if_false, e, nat64_succ (show i < 9223372036854775807 by omega)]
      exact ihi
    · refine Ev.step (fun k => poly_Add.l1.eq_2 ..) ?_
      have c2 : (m : Int) < (ls.length : Int) := by omega
      have c3 : (0 : Int) ≤ (m : Int) := by omega
      have c4 : (0 : Int) ≤ (i : Int) := by omega
      have hr : rd (tab M (fun j => if j = i then sumc ls m i else if j < i then sumc ls ls.length j else 0)) (i : Int) = un (sumc ls m i) := by rw [rd_tab hi, if_pos rfl]
      have es : sumc ls m i + cv ((ls.getD m []).getD i 0) = sumc ls (m + 1) i := rfl
      have e : tab M (fun j => if j = i then sumc ls (m + 1) i else if j = i then sumc ls m i else if j < i then sumc ls ls.length j else 0) = tab M (fun j => if j = i then sumc ls (m + 1) i else if j < i then sumc ls ls.length j else 0) := tab_congr (fun j _ => by
        by_cases e : j = i
        · rw [if_pos e, if_pos e]
        · rw [if_neg e, if_neg e, if_neg e])
      simp -implicitDefEqProofs only [c1, c2, c3, c4, tab_length, if_true, rdl_nat, poly_coefficient_eq, hr, Option.bind_some, gold_Add_eq (U_un _) (U_getD (UL_getl hu m) i), cv_un, es, Int.toNat_natCast, tab_set, e, nat64_succ (show m < 9223372036854775807 by omega)]
      exact ih
theorem poly_Add_two {a b : List Int} (ha : UL a) (hb : UL b) (hla : a.length < 4294967296) (hlb : b.length < 4294967296) : Ev (fun k => poly_Add.f k [a, b]) (tr (max a.length b.length) (fun i => co a i + co b i)) := by
  have h := poly_Add_ev (ls := [a, b]) (by simp only [List.length_cons, List.length_nil]; omega) (by intro l hl; rcases List.mem_cons.1 hl with rfl | hl; exact ha; rcases List.mem_cons.1 hl with rfl | hl; exact hb; cases hl) (by intro l hl; rcases List.mem_cons.1 hl with rfl | hl; exact hla; rcases List.mem_cons.1 hl with rfl | hl; exact hlb; cases hl)
  have e1 : lng [a, b] [a, b].length = max a.length b.length := by
    show max (max 0 a.length) b.length = _
    omega
  have e2 : sumc [a, b] [a, b].length = fun i => co a i + co b i := by
    funext i
    show 0 + co a i + co b i = _
    exact k _ _
  rw [e1, e2] at h; exact h
where k {R : Nat} [NeZero R] (a b : Fin R) : 0 + a + b = a + b := by grind

theorem poly_Scale_ev {l : List Int} (h : UL l) (hl : l.length < 4294967296) {a : Int} (ha : U a) : Ev (fun k => poly_Scale.f k l a) (tr l.length (fun i => co l i * cv a)) := by
  unfold poly_Scale.f
  have d1 : (0 : Int) ≤ (l.length : Int) := by omega
  have d2 : l.length ≤ 35184372088832 := by omega
  simp -implicitDefEqProofs only [d1, d2, if_true, Int.toNat_natCast, replicate_tab]
  have e0 : tab l.length (fun _ => (0 : F)) = tab l.length (fun j => if j < 0 then co l j * cv a else 0) := tab_congr (fun j hj => by rw [if_neg (by omega)])
  rw [e0]
  refine Ev_loop l.length (fun k i => poly_Scale.l0 k l a (tab l.length (fun j => if j < i then co l j * cv a else 0)) (l.length : Int) (i : Int)) ?_ (fun i hi ih => ?_) 0 (Nat.zero_le _)
  · refine Ev.step (fun k => poly_Scale.l0.eq_2 ..) ?_
    simp -implicitDefEqProofs only [Int.lt_irrefl, if_false]
    refine Ev.bind (poly_Trim_ev (UL_tab _ _) (by rw [tab_length]; omega)) ?_
    rw [tab_length, tr_congr (g := fun i => co l i * cv a) (fun i hi => by rw [co_tab_lt hi, if_pos hi])]
    exact Ev.now _
  · refine Ev.step (fun k => poly_Scale.l0.eq_2 ..) ?_
    have c1 : (i : Int) < (l.length : Int) := by omega
    have c2 : (0 : Int) ≤ (i : Int) := by omega
    simp -implicitDefEqProofs only [c1, c2, tab_length, if_true, gold_Mul_eq (U_rd h _) ha, Option.bind_some, cv_rd, Int.toNat_natCast, tab_set, nat64_succ (show i < 9223372036854775807 by omega)]
    have e : tab l.length (fun j => if j = i then co l i * cv a else if j < i then co l j * cv a else 0) = tab l.length (fun j => if j < i + 1 then co l j * cv a else 0) := by
      apply tab_congr
      intro j hj
      by_cases hji : j = i
      · subst hji; rw [if_pos rfl, if_pos (by omega)]
      · rw [if_neg hji]
        by_cases hh : j < i
        · rw [if_pos hh, if_pos (by omega)]
        · rw [if_neg hh, if_neg (by omega)]
    rw [e]
    exact ih

theorem cv_minus_one : cv 18446744069414584320 = -1 := by
  rw [show (18446744069414584320 : Int) = 18446744069414584321 - 1 by omega, cv_sub, cv_P, cv_one]; exact k
where k {R : Nat} [NeZero R] : 0 - 1 = (-1 : Fin R) := by grind
theorem poly_Sub_ev {a b : List Int} (ha : UL a) (hb : UL b) (hla : a.length < 4294967296) (hlb : b.length < 4294967296) : Ev (fun k => poly_Sub.f k a b) (tr (max a.length b.length) (fun i => co a i - co b i)) := by
  unfold poly_Sub.f
  refine Ev.bind (poly_Scale_ev hb hlb ⟨by omega, by omega⟩) ?_
  have hl := tr_len_le b.length (fun i => co b i * cv 18446744069414584320)
  refine Ev.bind (poly_Add_two ha (UL_tr _ _) hla (by omega)) ?_
  have e : tr (max a.length (tr b.length (fun i => co b i * cv 18446744069414584320)).length) (fun i => co a i + co (tr b.length (fun i => co b i * cv 18446744069414584320)) i) = tr (max a.length b.length) (fun i => co a i - co b i) := by
    have hc : co (tr b.length (fun i => co b i * cv 18446744069414584320)) = fun i => co b i * cv 18446744069414584320 := co_trF (fun i hi => by rw [co_out hi]; exact k0 _)
    refine tr_eq (fun i => by rw [hc, cv_minus_one]; exact k1 _ _) (fun i hi => ?_) (fun i hi => by rw [co_out (l := a) (by omega), co_out (l := b) (by omega)]; exact sub_self' _)
    rw [co_out (l := a) (by omega), co_out (l := tr b.length _) (by omega)]; exact k2
  rw [e]
  exact Ev.now _
where
  k0 {R : Nat} [NeZero R] (a : Fin R) : 0 * a = 0 := by grind
  k1 {R : Nat} [NeZero R] (a b : Fin R) : a + b * -1 = a - b := by grind
  k2 {R : Nat} [NeZero R] : (0 : Fin R) + 0 = 0 := by grind

/-- A function turned about, of so many places. -/
def rvf (n : Nat) (f : Nat → F) (i : Nat) : F := if i < n then f (n - 1 - i) else 0
theorem rvf_out (n : Nat) (f : Nat → F) : ∀ i, n ≤ i → rvf n f i = 0 := fun i h => if_neg (by omega)
theorem cvl_rev {n e : Nat} (hn : 0 < n) (he : 0 < e) {U Q : Nat → F} (hU : ∀ i, n ≤ i → U i = 0) (hQ : ∀ i, e ≤ i → Q i = 0) {j : Nat} (hj : j ≤ n - 1 + (e - 1)) : cvl U Q (n - 1 + (e - 1) - j) = cvl (rvf n U) (rvf e Q) j := by
  rw [← refmul_sum U Q hU, ← refmul_sum (rvf n U) (rvf e Q) (rvf_out n U), Sm_rev]
  refine Sm_congr (fun a ha => ?_)
  have e1 : rvf n U a = U (n - 1 - a) := if_pos ha
  by_cases c1 : a ≤ j
  · rw [if_pos c1, e1]
    by_cases c2 : j - a < e
    · rw [if_pos (by omega), show rvf e Q (j - a) = Q (e - 1 - (j - a)) from if_pos c2]
      congr 2; omega
    · rw [if_neg (by omega), rvf_out e Q _ (by omega)]
      exact (k1 _).symm
  · rw [if_neg c1, if_pos (by omega), hQ _ (by omega)]
    exact k1 _
where
  k1 {R : Nat} [NeZero R] (x : Fin R) : x * 0 = 0 := by grind
theorem divrest_ev {p q : List Int} (hp : UL p) (hq : UL q) (hl : p.length ≤ 65536) (hl2 : q.length ≤ 65536) (hd : 0 < dg q.length (co q)) (hn : dg q.length (co q) ≤ dg p.length (co p)) :
    ∃ U : Nat → F, (∀ i, dg p.length (co p) - dg q.length (co q) + 1 ≤ i → U i = 0) ∧ (∀ i, dg q.length (co q) - 1 ≤ i → co p i = cvl U (co q) i) ∧
      ∃ rest, IsRow rest (fun i => co p i - cvl U (co q) i) ∧ Ev (fun k => series_DivRest.f k p q) (tr (dg p.length (co p) - dg q.length (co q) + 1) U, rest, 0) := by
  have dp := dg_le p.length (co p)
  have dq := dg_le q.length (co q)
  obtain ⟨d, hdd⟩ : ∃ d, d = dg p.length (co p) := ⟨_, rfl⟩
  obtain ⟨e, hee⟩ : ∃ e, e = dg q.length (co q) := ⟨_, rfl⟩
  obtain ⟨n, hnn⟩ : ∃ n, n = d - e + 1 := ⟨_, rfl⟩
  have op : ∀ i, d ≤ i → co p i = 0 := fun i hi => by
    rcases Nat.lt_or_ge i p.length with h | h
    · exact dg_out (by omega) h
    · exact co_out h
  have oq : ∀ i, e ≤ i → co q i = 0 := fun i hi => by
    rcases Nat.lt_or_ge i q.length with h | h
    · exact dg_out (by omega) h
    · exact co_out h
  have lastq : co q (e - 1) ≠ 0 := by rw [hee]; exact dg_last hd
  rw [← hdd, ← hee]
  rw [← hdd] at dp hn
  rw [← hee] at dq hn hd
  have ep : tr p.length (co p) = tab d (co p) := by unfold tr; rw [hdd]
  have eq : tr q.length (co q) = tab e (co q) := by unfold tr; rw [hee]
  have ctab : ∀ (m : Nat) (f : Nat → F), co (tab m (fun i => f (m - 1 - i))) = rvf m f := fun m f => funext (fun i => co_tab m _ i)
  obtain ⟨S, hS, hSE⟩ := series_inv_ev (p := tab e (fun i => co q (e - 1 - i))) (UL_tab _ _) (by rw [tab_length]; omega) (n := n) (by omega) (by rw [co_tab_lt (show 0 < e by omega), Nat.sub_zero]; exact lastq)
  rw [ctab] at hS
  have hM := series_mul_ev (p := tab d (fun i => co p (d - 1 - i))) (q := tab n S) (n := n) (UL_tab _ _) (UL_tab _ _) (by omega) (by rw [tab_length]; omega) (by rw [tab_length]; omega)
  rw [ctab] at hM
  have q1 : tab n (cvl (rvf d (co p)) (co (tab n S))) = tab n (cvl (rvf d (co p)) S) := tab_congr (fun i hi => cvl_upto (n := n) (fun _ _ => rfl) (fun j hj => co_tab_lt hj) hi)
  rw [q1] at hM
  have oU : ∀ i, n ≤ i → rvf n (cvl (rvf d (co p)) S) i = 0 := rvf_out n _
  have key : ∀ i, e - 1 ≤ i → co p i = cvl (rvf n (cvl (rvf d (co p)) S)) (co q) i := by
    intro i hi
    by_cases c : i < d
    · have h := cvl_rev (n := n) (e := e) (by omega) (by omega) oU oq (j := d - 1 - i) (by omega)
      rw [show n - 1 + (e - 1) - (d - 1 - i) = i by omega] at h
      rw [h]
      have e1 : cvl (rvf n (rvf n (cvl (rvf d (co p)) S))) (rvf e (co q)) (d - 1 - i) = cvl (cvl (rvf d (co p)) S) (rvf e (co q)) (d - 1 - i) := cvl_upto (n := n) (fun j hj => by
        unfold rvf
        rw [if_pos hj, if_pos (by omega), show n - 1 - (n - 1 - j) = j by omega]) (fun _ _ => rfl) (by omega)
      rw [e1, cvl_assoc, cvl_upto (n := n) (f' := rvf d (co p)) (g' := pone) (fun _ _ => rfl) (fun j hj => by rw [cvl_comm]; exact hS j hj) (by omega), cvl_pone]
      unfold rvf
      rw [if_pos (by omega)]
      congr 1; omega
    · rw [op i (by omega), cvl_out oU oq (by omega)]
  refine ⟨rvf n (cvl (rvf d (co p)) S), by rw [← hnn]; exact oU, key, ?_⟩
  rw [← hnn]
  have hquo : IsRow (tr n (rvf n (cvl (rvf d (co p)) S))) (rvf n (cvl (rvf d (co p)) S)) := IsRow.of oU
  have hq1 : IsRow (tab e (co q)) (co q) := by rw [← eq]; exact IsRow.of (row_out q)
  have lq := tr_len_le n (rvf n (cvl (rvf d (co p)) S))
  have hL : ∀ r ∈ [tr n (rvf n (cvl (rvf d (co p)) S)), tab e (co q)], UL r := by
    intro r hr
    rcases List.mem_cons.1 hr with rfl | hr
    · exact UL_tr _ _
    · rw [List.mem_singleton.1 hr]; exact UL_tab _ _
  have hP := conv_Product_ev (l := [tr n (rvf n (cvl (rvf d (co p)) S)), tab e (co q)]) hL (by simp) (by
    show 0 + (tr n (rvf n (cvl (rvf d (co p)) S))).length + (tab e (co q)).length < 524288
    rw [tab_length]; omega)
  have hpr : IsRow (pst [tr n (rvf n (cvl (rvf d (co p)) S)), tab e (co q)] 2) (cvl (rvf n (cvl (rvf d (co p)) S)) (co q)) := by
    have h := pmul_row (pmul_row pone_row hquo) hq1
    exact h.congr (fun k => cvl_fun (fun i => pone_cvl _ i) (fun _ => rfl) k)
  have lpr := pst_length [tr n (rvf n (cvl (rvf d (co p)) S)), tab e (co q)] 2
  have ltot : tot [tr n (rvf n (cvl (rvf d (co p)) S)), tab e (co q)] 2 = 0 + (tr n (rvf n (cvl (rvf d (co p)) S))).length + (tab e (co q)).length := rfl
  rw [tab_length] at ltot
  have hSub := poly_Sub_ev (a := tab d (co p)) (b := pst [tr n (rvf n (cvl (rvf d (co p)) S)), tab e (co q)] 2) (UL_tab _ _) (pst_UL _ _) (by rw [tab_length]; omega) (by omega)
  have cp : co (tab d (co p)) = co p := funext (fun i => by
    rw [co_tab]
    by_cases c : i < d
    · rw [if_pos c]
    · rw [if_neg c, op i (by omega)])
  rw [cp, hpr.co, tab_length] at hSub
  refine ⟨_, IsRow.of (n := max d (pst [tr n (rvf n (cvl (rvf d (co p)) S)), tab e (co q)] 2).length) (fun i hi => ?_), ?_⟩
  rotate_left
  · unfold series_DivRest.f
    simp -implicitDefEqProofs only [if_pos (show p.length ≤ 65536 ∧ q.length ≤ 65536 from ⟨hl, hl2⟩)]
    have t1 := poly_Trim_ev hp (by omega)
    have t2 := poly_Trim_ev hq (by omega)
    rw [ep] at t1
    rw [eq] at t2
    refine Ev.bind t1 ?_
    refine Ev.bind t2 ?_
    have en : (d : Int) - (e : Int) + 1 = (n : Int) := by omega
    simp -implicitDefEqProofs only [tab_length, if_pos (show d ≤ 65536 ∧ e ≤ 65536 from ⟨by omega, by omega⟩), if_neg (show ¬ e = 0 by omega), en, if_neg (show ¬ (n : Int) < 1 by omega)]
    refine Ev.bind (series_turned_ev (by omega) (co p)) ?_
    refine Ev.bind (series_turned_ev (by omega) (co q)) ?_
    refine Ev.bind hSE ?_
    refine Ev.bind hM ?_
    refine Ev.bind (series_turned_ev (by omega) (cvl (rvf d (co p)) S)) ?_
    have t3 := poly_Trim_ev (l := tab n (fun i => cvl (rvf d (co p)) S (n - 1 - i))) (UL_tab _ _) (by rw [tab_length]; omega)
    rw [tab_length, ctab] at t3
    refine Ev.bind t3 ?_
    refine Ev.bind hP ?_
    refine Ev.bind hSub ?_
    exact Ev.now _
  · rw [op i (by omega), hpr.out i (by omega)]
    exact k0 _
where
  k0 (R : Nat) [NeZero R] : (0 : Fin R) - 0 = 0 := by grind
theorem divrest_short {p q : List Int} (hp : UL p) (hq : UL q) (hl : p.length ≤ 65536) (hl2 : q.length ≤ 65536) (hn : dg p.length (co p) < dg q.length (co q)) : Ev (fun k => series_DivRest.f k p q) ([], tr p.length (co p), 0) := by
  unfold series_DivRest.f
  have dp := dg_le p.length (co p)
  have dq := dg_le q.length (co q)
  simp -implicitDefEqProofs only [if_pos (show p.length ≤ 65536 ∧ q.length ≤ 65536 from ⟨hl, hl2⟩)]
  refine Ev.bind (poly_Trim_ev hp (by omega)) ?_
  refine Ev.bind (poly_Trim_ev hq (by omega)) ?_
  simp -implicitDefEqProofs only [tr_length, if_pos (show dg p.length (co p) ≤ 65536 ∧ dg q.length (co q) ≤ 65536 from ⟨by omega, by omega⟩), if_neg (show ¬ dg q.length (co q) = 0 by omega), if_pos (show (dg p.length (co p) : Int) - (dg q.length (co q) : Int) + 1 < 1 by omega)]
  exact Ev.now _

theorem TR_dg {q : List Int} (h : TR q) : dg q.length (co q) = q.length := by
  obtain ⟨n, hn, e⟩ := h.2
  have h1 : q.length = dg n (co q) := by
    have h2 := congrArg List.length e
    rw [tr_length] at h2; exact h2
  have h3 := congrArg List.length (tr_tr n (co q))
  rw [tr_length, tr_length, ← h1] at h3
  exact h3
theorem rest_k1 {R : Nat} [NeZero R] (a b : Fin R) : a - b * 0 = a := by grind
theorem tree_rest_ev {p q : List Int} (hp : UL p) (hq : TR q) (hl : p.length ≤ 65536) (hl2 : q.length ≤ 65536) (h0 : 0 < q.length) :
    ∃ r, Ev (fun k => tree_rest.f k p q) r ∧ TR r ∧ r.length < q.length ∧ ∀ a, rv q a = 0 → rv r a = rv p a := by
  have hdg := TR_dg hq
  by_cases c : dg p.length (co p) < dg q.length (co q)
  · have hE := divrest_short hp hq.1 hl hl2 c
    have hR : IsRow (tr p.length (co p)) (co p) := IsRow.of (row_out p)
    refine ⟨tr p.length (co p), ?_, TR_of hR, by rw [tr_length]; omega, fun a _ => ?_⟩
    · unfold tree_rest.f
      exact Ev.bind hE (Ev.now _)
    · exact (rv_of hR (row_out p) a).symm
  · obtain ⟨U, oU, hU, rest, hR, hE⟩ := divrest_ev hp hq.1 hl hl2 (by omega) (by omega)
    refine ⟨rest, ?_, TR_of hR, ?_, fun a ha => ?_⟩
    · unfold tree_rest.f
      exact Ev.bind hE (Ev.now _)
    · have := row_len hR (m := dg q.length (co q) - 1) (fun i hi => by rw [hU i hi]; exact k0 _)
      omega
    · generalize hnU : dg p.length (co p) - dg q.length (co q) + 1 = nU at oU
      have o1 : ∀ i, nU + q.length ≤ i → cvl U (co q) i = 0 := fun i hi => cvl_out oU (row_out q) (by omega)
      have e1 := ev_mul oU (row_out q) a
      have e2 : ev (p.length + (nU + q.length)) (fun i => co p i - cvl U (co q) i) a = rv rest a := rv_of hR (fun i hi => by
        have := row_out p i (by omega)
        rw [this, o1 i (by omega)]; exact k0 _) a
      have e3 : ev (p.length + (nU + q.length)) (co p) a = rv p a := ev_ext a (by omega) (fun i h1 _ => row_out p i h1)
      have e4 : ev (p.length + (nU + q.length)) (cvl U (co q)) a = ev (nU + q.length) (cvl U (co q)) a := ev_ext a (by omega) (fun i h1 _ => o1 i h1)
      have e5 : ev q.length (co q) a = 0 := ha
      rw [← e2, ev_sub, e3, e4, e1, e5]
      exact rest_k1 _ _
where
  k0 {R : Nat} [NeZero R] (x : Fin R) : x - x = 0 := by grind

theorem poly_At_ev {l : List Int} (h : UL l) (hl : l.length < 4294967296) {x : Int} (hx : U x) : Ev (fun k => poly_At.f k l x) (un (ev l.length (co l) (cv x))) := by
  unfold poly_At.f
  rw [down_next (show l.length < 9223372036854775807 by omega), ← hn_zero]
  rw [show (0 : Int) = un (hn l.length (co l) (cv x) l.length) by rw [hn_top, un_zero]]
  refine Ev_down l.length (fun k i => poly_At.l0 k l x (un (hn l.length (co l) (cv x) i)) ((i : Int) - 1)) ?_ (fun i hi ih => ?_)
  · refine Ev.step (fun k => poly_At.l0.eq_2 ..) ?_
    simp -implicitDefEqProofs only [show ¬ (((0 : Nat) : Int) - 1 ≥ 0) by omega, if_false]
    exact Ev.now _
  · refine Ev.step (fun k => poly_At.l0.eq_2 ..) ?_
    have c1 : (i : Int) ≥ 0 := by omega
    have c2 : (i : Int) < (l.length : Int) := by omega
    simp -implicitDefEqProofs only [down_at, c1, c2, if_true, gold_Mul_eq (U_un _) hx, gold_Add_eq (U_un _) (U_rd h _), Option.bind_some, cv_un, cv_rd, ← hn_step _ _ hi, down_next (show i < 9223372036854775807 by omega)]
    exact ih

/-- A rest: short, with the polynomial's values at a node's points. -/
def Good (p x : List Int) (zs : List F) : Prop := TR x ∧ x.length ≤ zs.length ∧ ∀ a ∈ zs, rv x a = rv p a
theorem values_l2 {p : List Int} {rs : List (List Int)} {d : List (List F)} (hd : ∀ q ∈ d, q.length ≤ 1000) (hlen : rs.length = (pabv d).length) (hup : ∀ q ∈ pabv d, q.length ≤ 1000) (hrs : ∀ j, j < rs.length → Good p (rs.getD j []) ((pabv d).getD j [])) :
    ∀ (qs : List (List F)) (i : Nat) (nx : List (List Int)), i ≤ d.length → d.drop i = qs → nx.length = i → (∀ j, j < i → Good p (nx.getD j []) (d.getD j [])) →
      ∃ NX, Ev (fun k => tree_Tree_Values.l2 k rs (qs.map nrow) i nx) NX ∧ NX.length = d.length ∧ ∀ j, j < d.length → Good p (NX.getD j []) (d.getD j [])
  | [], i, nx, hi, hq, hn, hg => by
    have := List.drop_eq_nil_iff.1 hq
    obtain rfl : i = d.length := by omega
    exact ⟨nx, Ev.now _, hn, hg⟩
  | q :: qs, i, nx, hi, hq, hn, hg => by
    have hil : i < d.length := by
      rcases Nat.lt_or_ge i d.length with c | c
      · exact c
      · rw [List.drop_eq_nil_iff.2 c] at hq; cases hq
    have hqd := List.drop_eq_getElem_cons hil
    rw [hq] at hqd
    injection hqd with e1 e2
    have e3 : d.getD i [] = q := by rw [List.getD_eq_getElem?_getD, List.getElem?_eq_getElem hil, e1]; rfl
    have hqm : q ∈ d := e3 ▸ getD_mem' hil []
    have hr2 : i / 2 < rs.length := by rw [hlen, pabv_length]; omega
    obtain ⟨g1, g2, g3⟩ := hrs (i / 2) hr2
    have hq1 := hd q hqm
    have hu1 := hup _ (getD_mem' (show i / 2 < (pabv d).length by omega) [])
    obtain ⟨r, hE, hT, hL, hV⟩ := tree_rest_ev (p := rs.getD (i / 2) []) (q := nrow q) g1.1 (nrow_TR q) (by omega) (by rw [nrow_length]; omega) (by rw [nrow_length]; omega)
    have hsub : ∀ a ∈ q, a ∈ (pabv d).getD (i / 2) [] := fun a ha => by
      rw [pabv_at d (i / 2) (by omega), List.mem_append]
      rcases (show i = 2 * (i / 2) ∨ i = 2 * (i / 2) + 1 by omega) with c | c
      · exact .inl (by rw [← c, e3]; exact ha)
      · exact .inr (by rw [← c, e3]; exact ha)
    have hgr : Good p r q := ⟨hT, by rw [nrow_length] at hL; omega, fun a ha => by rw [hV a (by rw [nrow_rv]; exact fe_mem ha)]; exact g3 a (hsub a ha)⟩
    obtain ⟨NX, hN, hNl, hNg⟩ := values_l2 hd hlen hup hrs qs (i + 1) (nx ++ [r]) (by omega) e2.symm (by rw [List.length_append, List.length_singleton, hn]) (fun j hj => by
      by_cases c : j < i
      · have := hg j c
        rw [List.getD_eq_getElem?_getD, List.getElem?_append_left (by omega), ← List.getD_eq_getElem?_getD]; exact this
      · obtain rfl : j = i := by omega
        rw [List.getD_eq_getElem?_getD, List.getElem?_append_right (by omega), hn, Nat.sub_self, e3]; exact hgr)
    refine ⟨NX, ?_, hNl, hNg⟩
    have e : ∀ k, tree_Tree_Values.l2 k rs ((q :: qs).map nrow) i nx = (tree_rest.f k (rs.getD (i / 2) []) (nrow q)).bind fun r => tree_Tree_Values.l2 k rs (qs.map nrow) (i + 1) (nx ++ [r]) := fun k => if_pos hr2
    simp -implicitDefEqProofs only [e]
    exact Ev.bind hE hN
theorem values_l1 {l p : List Int} {T : List (List (List F))} (h : Tr l T) (hl : l.length ≤ 1000) : ∀ (m : Nat) (rs : List (List Int)), m < T.length → rs.length = (T.getD m []).length → (∀ j, j < rs.length → Good p (rs.getD j []) ((T.getD m []).getD j [])) →
    ∃ RS, Ev (fun k => tree_Tree_Values.l1 k (rowsOf T) m rs) RS ∧ RS.length = l.length ∧ ∀ j, j < l.length → Good p (RS.getD j []) ((sing (pts l)).getD j [])
  | 0, rs, hm, hlen, hg => by
    rw [h.zero] at hlen hg
    have e : (sing (pts l)).length = l.length := by unfold sing pts; rw [List.length_map, List.length_map]
    exact ⟨rs, Ev.now _, by omega, fun j hj => hg j (by omega)⟩
  | m + 1, rs, hm, hlen, hg => by
    rw [h.up m hm] at hlen hg
    have hs : ∀ q ∈ T.getD m [], q.length ≤ 1000 := fun q hq => by
      have h1 := flat_len _ _ hq
      rw [h.flat m (by omega), pts_length] at h1; omega
    have hs2 : ∀ q ∈ pabv (T.getD m []), q.length ≤ 1000 := fun q hq => by
      have h1 := flat_len _ _ hq
      rw [pabv_flat, h.flat m (by omega), pts_length] at h1; omega
    obtain ⟨NX, hN, hNl, hNg⟩ := values_l2 hs hlen hs2 hg (T.getD m []) 0 [] (Nat.zero_le _) rfl rfl (fun j hj => by omega)
    obtain ⟨RS, hR, hRl, hRg⟩ := values_l1 h hl m NX (by omega) hNl (fun j hj => hNg j (by omega))
    refine ⟨RS, ?_, hRl, hRg⟩
    have hw := h.width m (by omega)
    have e : ∀ k, tree_Tree_Values.l1 k (rowsOf T) (m + 1) rs = (tree_Tree_Values.l2 k rs ((T.getD m []).map nrow) 0 []).bind fun nx => tree_Tree_Values.l1 k (rowsOf T) m nx := fun k => by
      show (if ((rowsOf T).getD m []).length < 4294967296 then _ else _) = _
      rw [if_pos (by rw [rowsOf_at, List.length_map]; omega), rowsOf_at]
    simp -implicitDefEqProofs only [e]
    exact Ev.bind hN hR
theorem values_l3 : ∀ (rs : List (List Int)) (o : List Int), (∀ r ∈ rs, TR r ∧ r.length < 4294967296) → Ev (fun k => tree_Tree_Values.l3 k rs o) (o ++ rs.map fun r => un (rv r (cv 0)))
  | [], o, _ => by
    rw [List.map_nil, List.append_nil]
    exact Ev.now _
  | r :: rs, o, h => by
    have h1 := h r List.mem_cons_self
    have hA := poly_At_ev h1.1.1 h1.2 U_zero
    have ih := values_l3 rs (o ++ [un (rv r (cv 0))]) (fun x hx => h x (List.mem_cons_of_mem _ hx))
    have e : o ++ (r :: rs).map (fun r => un (rv r (cv 0))) = o ++ [un (rv r (cv 0))] ++ rs.map fun r => un (rv r (cv 0)) := by rw [List.append_assoc]; rfl
    rw [e]
    exact Ev.bind hA ih
theorem rv_const {x : List Int} (h : x.length ≤ 1) (a b : F) : rv x a = rv x b := by
  unfold rv
  generalize x.length = n at h
  rcases (show n = 0 ∨ n = 1 by omega) with rfl | rfl
  · rfl
  · exact k1 (co x 0) a b
where
  k1 {R : Nat} [NeZero R] (c a b : Fin R) : 0 + c * a ^ 0 = 0 + c * b ^ 0 := by grind
theorem list_ext {α : Type} {a b : List α} (d : α) (hl : a.length = b.length) (h : ∀ j, j < a.length → a.getD j d = b.getD j d) : a = b := by
  apply List.ext_getElem hl
  intro i h1 h2
  have := h i h1
  rw [List.getD_eq_getElem?_getD, List.getD_eq_getElem?_getD, List.getElem?_eq_getElem h1, List.getElem?_eq_getElem h2] at this
  exact this
theorem tree_Tree_Values_ev {l p : List Int} (h0 : 0 < l.length) (h1 : l.length ≤ 64) (hp : UL p) (hpl : p.length ≤ 65536) :
    Ev (fun k => tree_Tree_Values.f k (rowsOf (ptree l)) p) ((pts l).map (fun a => un (rv p a)), 0) := by
  have hT := ptree_Tr h0
  generalize ptree l = T at hT
  have hne := hT.ne
  have htop := hT.top
  have hlen := hT.len
  have e0 : (rowsOf T).getD ((rowsOf T).length - 1) [] = [nrow (pts l)] := by rw [rowsOf_length, rowsOf_at, htop]; rfl
  obtain ⟨r0, hE, hTR, hL, hV⟩ := tree_rest_ev hp (nrow_TR (pts l)) hpl (by rw [nrow_length, pts_length]; omega) (by rw [nrow_length]; omega)
  have hg0 : Good p r0 (pts l) := ⟨hTR, by rw [nrow_length] at hL; omega, fun a ha => hV a (by rw [nrow_rv]; exact fe_mem ha)⟩
  obtain ⟨RS, hR, hRl, hRg⟩ := values_l1 (p := p) hT (by omega) (T.length - 1) [r0] (by omega) (by rw [htop]; rfl) (fun j hj => by
    rw [htop]
    obtain rfl : j = 0 := by simp only [List.length_singleton] at hj; omega
    exact hg0)
  have h3 := values_l3 RS [] (fun r hr => by
    obtain ⟨j, hj, rfl⟩ := List.mem_iff_getElem.1 hr
    obtain ⟨g1, g2, g3⟩ := hRg j (by omega)
    rw [List.getD_eq_getElem?_getD, List.getElem?_eq_getElem hj] at g1 g2
    refine ⟨g1, ?_⟩
    unfold sing at g2
    rw [map_getD _ _ (by rw [pts_length]; omega) 0 []] at g2
    exact Nat.lt_of_le_of_lt g2 (by simp))
  have e1 : [] ++ RS.map (fun r => un (rv r (cv 0))) = (pts l).map (fun a => un (rv p a)) := by
    refine list_ext 0 (by rw [List.nil_append, List.length_map, List.length_map, pts_length, hRl]) (fun j hj => ?_)
    rw [List.nil_append, List.length_map] at hj
    rw [List.nil_append, map_getD _ _ hj [] 0, map_getD _ _ (by rw [pts_length]; omega) 0 0]
    obtain ⟨g1, g2, g3⟩ := hRg j (by omega)
    unfold sing at g2 g3
    rw [map_getD _ _ (by rw [pts_length]; omega) 0 []] at g2 g3
    rw [← g3 _ (List.mem_singleton.2 rfl)]
    exact congrArg un (rv_const g2 _ _)
  rw [e1] at h3
  unfold tree_Tree_Values.f
  simp -implicitDefEqProofs only [if_neg (show ¬ 65536 < p.length by omega), if_pos (show 0 < (rowsOf T).length ∧ (rowsOf T).length < 4294967296 ∧ 0 < ((rowsOf T).getD ((rowsOf T).length - 1) []).length from ⟨by rw [rowsOf_length]; omega, by rw [rowsOf_length]; omega, by rw [e0]; exact Nat.zero_lt_one⟩)]
  rw [e0, rowsOf_length]
  refine Ev.bind hE ?_
  refine Ev.bind hR ?_
  simp -implicitDefEqProofs only [if_pos (show RS.length < 4294967296 by omega)]
  exact Ev.bind h3 (Ev.now _)

theorem poly_Derive_ev {l : List Int} (h : UL l) (hl : l.length < 4294967296) : Ev (fun k => poly_Derive.f k l) (tr (l.length - 1) (der (co l))) := by
  unfold poly_Derive.f
  have key : Ev (fun k => poly_Derive.l0 k l (tab 0 (der (co l))) ((0 + 1 : Nat) : Int)) (tr (l.length - 1) (der (co l))) := by
    refine Ev_loop (l.length - 1) (fun k i => poly_Derive.l0 k l (tab i (der (co l))) ((i + 1 : Nat) : Int)) ?_ (fun i hi ih => ?_) 0 (Nat.zero_le _)
    · refine Ev.step (fun k => poly_Derive.l0.eq_2 ..) ?_
      have c1 : ¬ ((l.length - 1 + 1 : Nat) : Int) < (l.length : Int) := by omega
      simp -implicitDefEqProofs only [c1, if_false]
      refine Ev.bind (poly_Trim_ev (UL_tab _ _) (by rw [tab_length]; omega)) ?_
      rw [tab_length, tr_congr (g := der (co l)) (fun i hi => co_tab_lt hi)]
      exact Ev.now _
    · refine Ev.step (fun k => poly_Derive.l0.eq_2 ..) ?_
      have c1 : ((i + 1 : Nat) : Int) < (l.length : Int) := by omega
      have c2 : (0 : Int) ≤ ((i + 1 : Nat) : Int) := by omega
      have c3 : i < 17592186044416 := by omega
      have hu : U ((i + 1 : Nat) : Int) := U_nat (by omega)
      have e : un (co l (i + 1) * cv ((i + 1 : Nat) : Int)) = un (der (co l) i) := rfl
      rw [wu64_of hu]
      simp -implicitDefEqProofs only [c1, c2, c3, if_true, gold_Mul_eq (U_rd h _) hu, Option.bind_some, cv_rd, e, tab_length, ← tab_succ, nat64_succ (show i + 1 < 9223372036854775807 by omega)]
      exact ih
  exact key

theorem Pm_ne {l : List Int} {n : Nat} (h : ∀ i, i < n → co l i ≠ 0) : Pm n (co l) ≠ 0 := by
  induction n with
  | zero => exact one_ne_zero
  | succ n ih => exact mul_ne_zero (ih (fun i hi => h i (by omega))) (h n (by omega))
theorem inv_step {p x : F} (hp : p ≠ 0) (hx : x ≠ 0) : inv (p * x) * p = inv x ∧ inv (p * x) * x = inv p := by
  have h1 := mul_inv hp
  have h2 := mul_inv hx
  have h3 := mul_inv (mul_ne_zero hp hx)
  generalize inv (p * x) = a at *
  generalize inv p = b at *
  generalize inv x = c at *
  constructor <;> grind
theorem gold_Invs_l1 {l : List Int} (h : UL l) (hl : l.length < 35184372088832) (hn : ∀ i, i < l.length → co l i ≠ 0) :
    Ev (fun k => gold_Invs.l1 k l (tab l.length (fun _ => 0)) (tab l.length (fun j => Pm j (co l))) (un (inv (Pm l.length (co l)))) ((l.length : Int) - 1)) (tab l.length (fun i => inv (co l i)), 0, 0) := by
  have e0 : tab l.length (fun _ => (0 : F)) = tab l.length (fun j => if l.length ≤ j then inv (co l j) else 0) := tab_congr (fun j hj => by rw [if_neg (by omega)])
  rw [e0]
  refine Ev_down l.length (fun k i => gold_Invs.l1 k l (tab l.length (fun j => if i ≤ j then inv (co l j) else 0)) (tab l.length (fun j => Pm j (co l))) (un (inv (Pm i (co l)))) ((i : Int) - 1)) ?_ (fun i hi ih => ?_)
  · refine Ev.step (fun k => gold_Invs.l1.eq_2 ..) ?_
    simp -implicitDefEqProofs only [show ¬ (((0 : Nat) : Int) - 1 ≥ 0) by omega, if_false]
    have e : tab l.length (fun j => if 0 ≤ j then inv (co l j) else 0) = tab l.length (fun i => inv (co l i)) := tab_congr (fun j _ => by rw [if_pos (Nat.zero_le j)])
    rw [e]
    exact Ev.now _
  · refine Ev.step (fun k => gold_Invs.l1.eq_2 ..) ?_
    have c1 : (i : Int) ≥ 0 := by omega
    have c2 : (i : Int) < (l.length : Int) := by omega
    have hp := Pm_ne (l := l) (n := i) (fun j hj => hn j (by omega))
    have hs := inv_step hp (hn i hi)
    simp -implicitDefEqProofs only [down_at, c1, c2, tab_length, rd_tab hi, if_true, gold_Mul_eq (U_un _) (U_un _), gold_Mul_eq (U_un _) (U_rd h _), Option.bind_some, cv_un, cv_rd, Int.toNat_natCast, tab_set, Pm_succ, hs.1, hs.2, down_next (show i < 9223372036854775807 by omega)]
    have e : tab l.length (fun j => if j = i then inv (co l i) else if i + 1 ≤ j then inv (co l j) else 0) = tab l.length (fun j => if i ≤ j then inv (co l j) else 0) := by
      apply tab_congr
      intro j hj
      by_cases hji : j = i
      · subst hji; rw [if_pos rfl, if_pos (Nat.le_refl _)]
      · rw [if_neg hji]
        by_cases hh : i + 1 ≤ j
        · rw [if_pos hh, if_pos (by omega)]
        · rw [if_neg hh, if_neg (by omega)]
    rw [e]
    exact ih
theorem gold_Invs_ev {l : List Int} (h : UL l) (hl : l.length < 35184372088832) (hn : ∀ i, i < l.length → co l i ≠ 0) : Ev (fun k => gold_Invs.f k l) (tab l.length (fun i => inv (co l i)), 0, 0) := by
  unfold gold_Invs.f
  have d1 : (0 : Int) ≤ (l.length : Int) := by omega
  have d2 : l.length ≤ 35184372088832 := by omega
  simp -implicitDefEqProofs only [d1, d2, if_true, Int.toNat_natCast, replicate_tab]
  have e0 : tab l.length (fun _ => (0 : F)) = tab l.length (fun j => if j < 0 then Pm j (co l) else 0) := tab_congr (fun j hj => by rw [if_neg (by omega)])
  rw [e0, show (1 : Int) = un (Pm 0 (co l)) from un_one.symm]
  refine Ev_loop l.length (fun k i => gold_Invs.l0 k l (tab l.length (fun j => if j < i then Pm j (co l) else 0)) (un (Pm i (co l))) l (l.length : Int) (i : Int)) ?_ (fun i hi ih => ?_) 0 (Nat.zero_le _)
  · refine Ev.step (fun k => gold_Invs.l0.eq_2 ..) ?_
    simp -implicitDefEqProofs only [Int.lt_irrefl, if_false, d1, d2, if_true, Int.toNat_natCast, replicate_tab]
    refine Ev.bind (gold_Inv_ev (U_un _)) ?_
    rw [cv_un, erz_ne (Pm_ne hn)]
    simp -implicitDefEqProofs only [if_true, len64 (show l.length < 9223372036854775807 by omega)]
    have e : tab l.length (fun j => if j < l.length then Pm j (co l) else 0) = tab l.length (fun j => Pm j (co l)) := tab_congr (fun j hj => by rw [if_pos hj])
    rw [e]
    exact gold_Invs_l1 h hl hn
  · refine Ev.step (fun k => gold_Invs.l0.eq_2 ..) ?_
    have c1 : (i : Int) < (l.length : Int) := by omega
    have c2 : (0 : Int) ≤ (i : Int) := by omega
    have c3 : ¬ un (co l i) = 0 := fun hh => hn i hi (un_eq_zero.1 hh)
    simp -implicitDefEqProofs only [c1, c2, c3, tab_length, if_true, if_false, gold_Of_eq (U_rd h _), gold_Mul_eq (U_un _) (U_rd h _), Option.bind_some, cv_un, cv_rd, Int.toNat_natCast, tab_set, nat64_succ (show i < 9223372036854775807 by omega)]
    have e : tab l.length (fun j => if j = i then Pm i (co l) else if j < i then Pm j (co l) else 0) = tab l.length (fun j => if j < i + 1 then Pm j (co l) else 0) := by
      apply tab_congr
      intro j hj
      by_cases hji : j = i
      · subst hji; rw [if_pos rfl, if_pos (by omega)]
      · rw [if_neg hji]
        by_cases hh : j < i
        · rw [if_pos hh, if_pos (by omega)]
        · rw [if_neg hh, if_neg (by omega)]
    rw [e]
    exact ih
theorem gold_Invs_zero {l : List Int} (h : UL l) (hl : l.length < 35184372088832) (m : Nat) (hm : m < l.length) (hn : ∀ i, i < m → co l i ≠ 0) (hz : co l m = 0) : Ev (fun k => gold_Invs.f k l) ([], (m : Int), 13) := by
  unfold gold_Invs.f
  have d1 : (0 : Int) ≤ (l.length : Int) := by omega
  have d2 : l.length ≤ 35184372088832 := by omega
  simp -implicitDefEqProofs only [d1, d2, if_true, Int.toNat_natCast, replicate_tab]
  have e0 : tab l.length (fun _ => (0 : F)) = tab l.length (fun j => if j < 0 then Pm j (co l) else 0) := tab_congr (fun j hj => by rw [if_neg (by omega)])
  rw [e0, show (1 : Int) = un (Pm 0 (co l)) from un_one.symm]
  refine Ev_loop m (fun k i => gold_Invs.l0 k l (tab l.length (fun j => if j < i then Pm j (co l) else 0)) (un (Pm i (co l))) l (l.length : Int) (i : Int)) ?_ (fun i hi ih => ?_) 0 (Nat.zero_le _)
  · refine Ev.step (fun k => gold_Invs.l0.eq_2 ..) ?_
    have c1 : (m : Int) < (l.length : Int) := by omega
    have c2 : (0 : Int) ≤ (m : Int) := by omega
    simp -implicitDefEqProofs only [c1, c2, if_true, gold_Of_eq (U_rd h _), Option.bind_some, cv_rd, hz, un_zero]
    exact Ev.now _
  · refine Ev.step (fun k => gold_Invs.l0.eq_2 ..) ?_
    have c1 : (i : Int) < (l.length : Int) := by omega
    have c2 : (0 : Int) ≤ (i : Int) := by omega
    have c3 : ¬ un (co l i) = 0 := fun hh => hn i hi (un_eq_zero.1 hh)
    simp -implicitDefEqProofs only [c1, c2, c3, tab_length, if_true, if_false, gold_Of_eq (U_rd h _), gold_Mul_eq (U_un _) (U_rd h _), Option.bind_some, cv_un, cv_rd, Int.toNat_natCast, tab_set, nat64_succ (show i < 9223372036854775807 by omega)]
    have e : tab l.length (fun j => if j = i then Pm i (co l) else if j < i then Pm j (co l) else 0) = tab l.length (fun j => if j < i + 1 then Pm j (co l) else 0) := by
      apply tab_congr
      intro j hj
      by_cases hji : j = i
      · subst hji; rw [if_pos rfl, if_pos (by omega)]
      · rw [if_neg hji]
        by_cases hh : j < i
        · rw [if_pos hh, if_pos (by omega)]
        · rw [if_neg hh, if_neg (by omega)]
    rw [e]
    exact ih

/-- Sums of a level: with the weights c, each has at a node's points the weight times the node's derivative. -/
def Joint (c : F → F) (ss : List (List Int)) (d : List (List F)) : Prop := ss.length = d.length ∧ ∀ j, j < d.length → TR (ss.getD j []) ∧ (ss.getD j []).length ≤ (d.getD j []).length ∧ ∀ a ∈ d.getD j [], rv (ss.getD j []) a = c a * fd (d.getD j []) a
theorem Joint.cons {c : F → F} {s : List Int} {a : List F} {ss : List (List Int)} {d : List (List F)} (hs : TR s ∧ s.length ≤ a.length ∧ ∀ v ∈ a, rv s v = c v * fd a v) (h : Joint c ss d) : Joint c (s :: ss) (a :: d) :=
  ⟨by simp only [List.length_cons, h.1], fun j hj => by
    cases j with
    | zero => exact hs
    | succ j => exact h.2 j (by simp only [List.length_cons] at hj; omega)⟩
theorem Joint.head {c : F → F} {s : List Int} {a : List F} {ss : List (List Int)} {d : List (List F)} (h : Joint c (s :: ss) (a :: d)) : TR s ∧ s.length ≤ a.length ∧ ∀ v ∈ a, rv s v = c v * fd a v := h.2 0 (Nat.succ_pos _)
theorem Joint.tail {c : F → F} {s : List Int} {a : List F} {ss : List (List Int)} {d : List (List F)} (h : Joint c (s :: ss) (a :: d)) : Joint c ss d :=
  ⟨by have := h.1; simp only [List.length_cons] at this; omega, fun j hj => h.2 (j + 1) (by simp only [List.length_cons]; omega)⟩
theorem joint_k1 {R : Nat} [NeZero R] (c d e f g : Fin R) : c * d * e + f * 0 = c * (d * e + 0 * g) := by grind
theorem joint_k2 {R : Nat} [NeZero R] (c d e f g : Fin R) : f * 0 + c * d * e = c * (g * 0 + e * d) := by grind
theorem two_product_ev {s : List Int} {b : List F} (hs : TR s) (h1 : s.length ≤ 1000) (h2 : b.length ≤ 1000) : Ev (fun k => tree_product.f k [s, nrow b]) (pmul s (nrow b)) := by
  have h := tree_product_ev (l := [s, nrow b]) (fun p hp => by
    rcases List.mem_cons.1 hp with rfl | hp
    · exact hs.1
    · rw [List.mem_singleton] at hp; rw [hp]; exact (nrow_TR b).1) (show 2 < 4294967296 by decide) (by
    show 0 + s.length + (nrow b).length < 524288
    rw [nrow_length]; omega)
  have e : pst [s, nrow b] [s, nrow b].length = pmul s (nrow b) := pst_two_eq s (nrow b)
  rw [e] at h
  exact h
theorem tree_joined_l {c : F → F} : ∀ (d : List (List F)) (ss o : List (List Int)), (∀ q ∈ d, q.length ≤ 1000) → Joint c ss d → ∃ r, Ev (fun k => tree_joined.l k ss (d.map nrow) o) (o ++ r) ∧ Joint c r (pabv d)
  | [], ss, o, _, h => by
    obtain rfl := List.eq_nil_of_length_eq_zero h.1
    exact ⟨[], by rw [List.append_nil]; exact Ev.now _, h⟩
  | [a], ss, o, _, h => by
    obtain ⟨s, rfl⟩ := List.length_eq_one_iff.1 h.1
    exact ⟨[s], Ev.now _, h⟩
  | a :: b :: d, ss, o, hq, h => by
    rcases ss with _ | ⟨s, _ | ⟨s2, ss⟩⟩
    · exact absurd h.1 (by simp)
    · exact absurd h.1 (by simp)
    · obtain ⟨t1, l1, v1⟩ := h.head
      obtain ⟨t2, l2, v2⟩ := h.tail.head
      have qa := hq a List.mem_cons_self
      have qb := hq b (List.mem_cons_of_mem _ List.mem_cons_self)
      have hA := two_product_ev (b := b) t1 (by omega) qb
      have hB := two_product_ev (b := a) t2 (by omega) qa
      have la := pmul_length s (nrow b)
      have lb := pmul_length s2 (nrow a)
      rw [nrow_length] at la lb
      have hS := poly_Add_two (TR_pmul s (nrow b)).1 (TR_pmul s2 (nrow a)).1 (by omega) (by omega)
      have oA : ∀ i, a.length + b.length ≤ i → cvl (co s) (co (nrow b)) i = 0 := fun i hi => cvl_out (row_out s) (row_out (nrow b)) (by rw [nrow_length]; omega)
      have oB : ∀ i, a.length + b.length ≤ i → cvl (co s2) (co (nrow a)) i = 0 := fun i hi => cvl_out (row_out s2) (row_out (nrow a)) (by rw [nrow_length]; omega)
      have eA : co (pmul s (nrow b)) = cvl (co s) (co (nrow b)) := (pmul_any s (nrow b)).co
      have eB : co (pmul s2 (nrow a)) = cvl (co s2) (co (nrow a)) := (pmul_any s2 (nrow a)).co
      have hR : IsRow (tr (max (pmul s (nrow b)).length (pmul s2 (nrow a)).length) (fun i => co (pmul s (nrow b)) i + co (pmul s2 (nrow a)) i)) (fun i => co (pmul s (nrow b)) i + co (pmul s2 (nrow a)) i) := IsRow.of (fun i hi => by
        rw [co_out (show (pmul s (nrow b)).length ≤ i by omega), co_out (show (pmul s2 (nrow a)).length ≤ i by omega)]; exact k0)
      obtain ⟨t, ht⟩ : ∃ t, t = tr (max (pmul s (nrow b)).length (pmul s2 (nrow a)).length) (fun i => co (pmul s (nrow b)) i + co (pmul s2 (nrow a)) i) := ⟨_, rfl⟩
      rw [← ht] at hS hR
      have hv : ∀ v, rv t v = rv s v * fe b v + rv s2 v * fe a v := fun v => by
        have N : ∀ i, (pmul s (nrow b)).length + (pmul s2 (nrow a)).length ≤ i → co (pmul s (nrow b)) i + co (pmul s2 (nrow a)) i = 0 := fun i hi => by
          rw [co_out (show (pmul s (nrow b)).length ≤ i by omega), co_out (show (pmul s2 (nrow a)).length ≤ i by omega)]; exact k0
        have e1 := rv_of hR N v
        rw [ev_add] at e1
        rw [← e1, ← nrow_rv b v, ← nrow_rv a v, ← rv_pmul, ← rv_pmul]
        have x1 : ev ((pmul s (nrow b)).length + (pmul s2 (nrow a)).length) (co (pmul s (nrow b))) v = rv (pmul s (nrow b)) v := ev_ext v (by omega) (fun i h1 _ => row_out _ i h1)
        have x2 : ev ((pmul s (nrow b)).length + (pmul s2 (nrow a)).length) (co (pmul s2 (nrow a))) v = rv (pmul s2 (nrow a)) v := ev_ext v (by omega) (fun i h1 _ => row_out _ i h1)
        rw [x1, x2]
      have hg : TR t ∧ t.length ≤ (a ++ b).length ∧ ∀ v ∈ a ++ b, rv t v = c v * fd (a ++ b) v := by
        refine ⟨TR_of hR, ?_, fun v hvm => ?_⟩
        · rw [List.length_append]
          exact row_len hR (fun i hi => by rw [eA, eB, oA i hi, oB i hi]; exact k0)
        · rw [hv, fd_append]
          rcases List.mem_append.1 hvm with hm | hm
          · rw [v1 v hm, fe_mem hm]; exact joint_k1 _ _ _ _ _
          · rw [v2 v hm, fe_mem hm]; exact joint_k2 _ _ _ _ _
      obtain ⟨r, hE, hJ⟩ := tree_joined_l d ss (o ++ [t]) (fun q h => hq q (List.mem_cons_of_mem _ (List.mem_cons_of_mem _ h))) h.tail.tail
      refine ⟨t :: r, ?_, hJ.cons hg⟩
      have e : o ++ t :: r = o ++ [t] ++ r := by rw [List.append_assoc]; rfl
      rw [e]
      exact Ev.bind hA (Ev.bind hB (Ev.bind hS hE))
where
  k0 {R : Nat} [NeZero R] : (0 : Fin R) + 0 = 0 := by grind
theorem tree_joined_ev {c : F → F} {d : List (List F)} {ss : List (List Int)} (hq : ∀ q ∈ d, q.length ≤ 1000) (hd : d.length ≤ 1000) (h : Joint c ss d) : ∃ r, Ev (fun k => tree_joined.f k ss (d.map nrow)) r ∧ Joint c r (pabv d) := by
  obtain ⟨r, hE, hJ⟩ := tree_joined_l d ss [] hq h
  refine ⟨r, ?_, hJ⟩
  unfold tree_joined.f
  simp -implicitDefEqProofs only [if_pos (show ss.length < 4294967296 by rw [h.1]; omega)]
  exact hE

theorem ofs_length (l : List Int) : (hk_ofs l).length = l.length := List.length_map _
/-- The number that belongs to a point. -/
def look : List F → List Int → F → F
  | z :: zs, y :: ys, a => if a = z then cv y else look zs ys a
  | _, _, _ => 0
theorem look_at : ∀ (zs : List F) (ys : List Int), zs.Nodup → zs.length = ys.length → ∀ j, j < zs.length → look zs ys (zs.getD j 0) = cv (ys.getD j 0)
  | [], _, _, _, j, hj => by simp only [List.length_nil] at hj; omega
  | z :: zs, [], _, hl, _, _ => by simp only [List.length_cons, List.length_nil] at hl; omega
  | z :: zs, y :: ys, hn, hl, j, hj => by
    rw [List.nodup_cons] at hn
    cases j with
    | zero => exact if_pos rfl
    | succ j =>
      simp only [List.length_cons] at hl hj
      have hm : zs.getD j 0 ∈ zs := getD_mem' (by omega) 0
      have hne : ¬ zs.getD j 0 = z := fun e => hn.1 (e ▸ hm)
      have e : look (z :: zs) (y :: ys) (zs.getD j 0) = look zs ys (zs.getD j 0) := if_neg hne
      show look (z :: zs) (y :: ys) (zs.getD j 0) = cv (ys.getD j 0)
      rw [e]
      exact look_at zs ys hn.2 (by omega) j (by omega)
theorem single_row (m : F) : TR (tr 1 (co [un m])) ∧ (tr 1 (co [un m])).length ≤ 1 ∧ ∀ a, rv (tr 1 (co [un m])) a = m := by
  have hR : IsRow (tr 1 (co [un m])) (co [un m]) := IsRow.of (row_out [un m])
  refine ⟨TR_of hR, tr_len_le _ _, fun a => ?_⟩
  rw [← rv_of hR (row_out [un m]) a]
  have e : co [un m] 0 = m := cv_un m
  show 0 + co [un m] 0 * a ^ 0 = m
  rw [e]; exact k1 m a
where
  k1 {R : Nat} [NeZero R] (m a : Fin R) : 0 + m * a ^ 0 = m := by grind
/-- The first sums: each a word, its number over its slope. -/
theorem through_l4 {zs : List F} {y : List Int} {iv : List Int} {c : F → F} (hy : UL y) (hyl : y.length = zs.length) (hn : zs.length ≤ 1000) (hiv : iv.length = zs.length) (hU : UL iv) (hc : ∀ j, j < zs.length → cv (y.getD j 0) * cv (iv.getD j 0) = c (zs.getD j 0)) :
    ∀ (ys : List Int) (i : Nat) (ss : List (List Int)), y.drop i = ys → i ≤ zs.length → Joint c ss (sing (zs.take i)) → ∃ r, Ev (fun k => tree_Tree_Through.l4 k iv ys i ss) r ∧ Joint c r (sing zs)
  | [], i, ss, hd, hi, hJ => by
    have := List.drop_eq_nil_iff.1 hd
    rw [List.take_of_length_le (by omega)] at hJ
    exact ⟨ss, Ev.now _, hJ⟩
  | w :: ws, i, ss, hd, hi, hJ => by
    have hil : i < y.length := by
      rcases Nat.lt_or_ge i y.length with c | c
      · exact c
      · rw [List.drop_eq_nil_iff.2 c] at hd; cases hd
    have hd2 := List.drop_eq_getElem_cons hil
    rw [hd] at hd2
    injection hd2 with e1 e2
    have e3 : y.getD i 0 = w := by rw [List.getD_eq_getElem?_getD, List.getElem?_eq_getElem hil, e1]; rfl
    have hU2 : U w := e3 ▸ U_getD hy i
    have hM := gold_Mul_eq hU2 (U_getD hU i)
    have hcw := hc i (by omega)
    rw [e3] at hcw
    rw [hcw] at hM
    have hT := poly_Trim_ev (l := [un (c (zs.getD i 0))]) (UL_cons (U_un _) UL_nil) (by simp)
    obtain ⟨s1, s2, s3⟩ := single_row (c (zs.getD i 0))
    have ht1 : zs.take (i + 1) = zs.take i ++ [zs.getD i 0] := by
      rw [List.take_succ_eq_append_getElem (by omega), List.getD_eq_getElem?_getD, List.getElem?_eq_getElem (by omega)]; rfl
    have hJ2 : Joint c (ss ++ [tr 1 (co [un (c (zs.getD i 0))])]) (sing (zs.take (i + 1))) := by
      have hl : (sing (zs.take i)).length = i := by unfold sing; rw [List.length_map, List.length_take]; omega
      have hss := hJ.1
      have e : sing (zs.take (i + 1)) = sing (zs.take i) ++ [[zs.getD i 0]] := by rw [ht1]; unfold sing; rw [List.map_append]; rfl
      rw [e]
      refine ⟨by rw [List.length_append, List.length_append, hss]; rfl, fun j hj => ?_⟩
      rw [List.length_append, List.length_singleton] at hj
      by_cases cj : j < i
      · have := hJ.2 j (by omega)
        rw [List.getD_eq_getElem?_getD, List.getElem?_append_left (by omega), ← List.getD_eq_getElem?_getD, List.getD_eq_getElem?_getD (l := sing (zs.take i) ++ _), List.getElem?_append_left (by omega), ← List.getD_eq_getElem?_getD]
        exact this
      · obtain rfl : j = i := by omega
        rw [List.getD_eq_getElem?_getD, List.getElem?_append_right (by omega), hss, hl, Nat.sub_self, List.getD_eq_getElem?_getD (l := sing (zs.take j) ++ _), List.getElem?_append_right (by omega), hl, Nat.sub_self]
        refine ⟨s1, s2, fun a ha => ?_⟩
        have ha : a = zs.getD j 0 := List.mem_singleton.1 ha
        show rv (tr 1 (co [un (c (zs.getD j 0))])) a = c a * fd [zs.getD j 0] a
        rw [s3, fd_single, ha]; exact (k1 _).symm
    obtain ⟨r, hE, hr⟩ := through_l4 hy hyl hn hiv hU hc ws (i + 1) _ e2.symm (by omega) hJ2
    refine ⟨r, ?_, hr⟩
    have e : ∀ k, tree_Tree_Through.l4 k iv (w :: ws) i ss = (poly_Trim.f k [un (c (zs.getD i 0))]).bind fun t => tree_Tree_Through.l4 k iv ws (i + 1) (ss ++ [t]) := fun k => by
      rw [tree_Tree_Through.l4.eq_2, if_pos (show i < iv.length by omega), hM, Option.bind_some]
    simp -implicitDefEqProofs only [e]
    exact Ev.bind hT hE
where
  k1 {R : Nat} [NeZero R] (x : Fin R) : x * 1 = x := by grind
/-- The levels, one by one. -/
theorem through_l5 {l : List Int} {T : List (List (List F))} (hT : Tr l T) (hl : l.length ≤ 1000) {c : F → F} : ∀ (m i : Nat) (ss : List (List Int)), i + m + 1 = T.length → Joint c ss (T.getD i []) → ∃ r, Ev (fun k => tree_Tree_Through.l5 k (((rowsOf T).take (T.length - 1)).drop i) ss) r ∧ Joint c r (T.getD (T.length - 1) [])
  | 0, i, ss, hm, hJ => by
    have e : ((rowsOf T).take (T.length - 1)).drop i = [] := by rw [List.drop_eq_nil_iff, List.length_take, rowsOf_length]; omega
    rw [e, show T.length - 1 = i by omega]
    exact ⟨ss, Ev.now _, hJ⟩
  | m + 1, i, ss, hm, hJ => by
    have hi : i < ((rowsOf T).take (T.length - 1)).length := by rw [List.length_take, rowsOf_length]; omega
    have e1 : ((rowsOf T).take (T.length - 1))[i] = (T.getD i []).map nrow := by
      rw [List.getElem_take, ← rowsOf_at, List.getD_eq_getElem?_getD, List.getElem?_eq_getElem (by rw [rowsOf_length]; omega)]; rfl
    have hw := hT.width i (by omega)
    obtain ⟨r, hE, hr⟩ := tree_joined_ev (d := T.getD i []) (fun q hq => by
      have h1 := flat_len _ _ hq
      rw [hT.flat i (by omega), pts_length] at h1; omega) (by omega) hJ
    rw [← hT.up i (by omega)] at hr
    obtain ⟨r2, hE2, hr2⟩ := through_l5 hT hl m (i + 1) r (by omega) hr
    refine ⟨r2, ?_, hr2⟩
    rw [List.drop_eq_getElem_cons hi, e1]
    exact Ev.bind hE hE2
theorem first_zero_at {zs : List F} {f : F → F} (h : ∃ a ∈ zs, f a = 0) : ∃ m, m < zs.length ∧ (∀ i, i < m → f (zs.getD i 0) ≠ 0) ∧ f (zs.getD m 0) = 0 := by
  obtain ⟨a, ha, e⟩ := h
  obtain ⟨j, hj, rfl⟩ := List.mem_iff_getElem.1 ha
  rcases first_zero (fun i => f (zs.getD i 0)) zs.length with h | ⟨m, h1, h2, h3⟩
  · refine absurd ?_ (h j hj)
    show f (zs.getD j 0) = 0
    rw [List.getD_eq_getElem?_getD, List.getElem?_eq_getElem hj]; exact e
  · exact ⟨m, h1, h2, h3⟩
theorem through_slopes {l : List Int} (h0 : 0 < l.length) (h1 : l.length ≤ 64) : tree_Tree_Top.f (hk_ofs l) (rowsOf (ptree l)) = some (nrow (pts l)) ∧
    Ev (fun k => poly_Derive.f k (nrow (pts l))) (tr (pts l).length (der (fp (pts l)))) ∧ Ev (fun k => tree_Tree_Values.f k (rowsOf (ptree l)) (tr (pts l).length (der (fp (pts l))))) ((pts l).map (fun a => un (fd (pts l) a)), 0) := by
  have hT := ptree_Tr h0
  refine ⟨?_, ?_, ?_⟩
  · generalize ptree l = T at hT
    have hne := hT.ne
    have hlen := hT.len
    have e0 := rowsOf_node T (T.length - 1) (j := 0) (by rw [hT.last]; exact Nat.zero_lt_one)
    rw [hT.top] at e0
    have hTop := tree_Tree_Top_at (ps := hk_ofs l) (L := rowsOf T) (n := T.length - 1) (by rw [rowsOf_length]; omega) (by omega) (by rw [rowsOf_at, hT.top]; exact Nat.zero_lt_one) (by rw [e0]; show (nrow (pts l)).length < 1000000; rw [nrow_length, pts_length]; omega)
    rw [e0] at hTop
    exact hTop
  · have h := poly_Derive_ev (nrow_TR (pts l)).1 (by rw [nrow_length, pts_length]; omega)
    rw [nrow_co, nrow_length, Nat.add_sub_cancel] at h
    exact h
  · have hR : IsRow (tr (pts l).length (der (fp (pts l)))) (der (fp (pts l))) := IsRow.of (fp_der_out (pts l))
    have h := tree_Tree_Values_ev (p := tr (pts l).length (der (fp (pts l)))) h0 h1 (TR_of hR).1 (Nat.le_trans (tr_len_le _ _) (by rw [pts_length]; omega))
    have e : (fun a => un (rv (tr (pts l).length (der (fp (pts l)))) a)) = fun a => un (fd (pts l) a) := funext (fun a => by rw [← rv_of hR (fp_der_out (pts l)) a]; rfl)
    rw [e] at h
    exact h
theorem slopes_co {zs : List F} (g : F → F) {i : Nat} (hi : i < zs.length) : co (zs.map fun a => un (g a)) i = g (zs.getD i 0) := by
  unfold co
  rw [map_getD _ _ hi 0 0, cv_un]
theorem slopes_UL (zs : List F) (g : F → F) : UL (zs.map fun a => un (g a)) := fun x hx => by
  obtain ⟨a, _, rfl⟩ := List.mem_map.1 hx
  exact U_un _
/-- Two points alike: refused. -/
theorem through_dup {l y : List Int} (h0 : 0 < l.length) (h1 : l.length ≤ 64) (hyl : y.length = l.length) (hd : ¬ (pts l).Nodup) : Ev (fun k => tree_Tree_Through.f k (hk_ofs l) (rowsOf (ptree l)) y) ([], 13) := by
  obtain ⟨hTop, hDer, hVal⟩ := through_slopes h0 h1
  obtain ⟨m, hm, hne, hz⟩ := first_zero_at (fd_dup hd)
  have hI := gold_Invs_zero (slopes_UL (pts l) (fd (pts l))) (by rw [List.length_map, pts_length]; omega) m (by rw [List.length_map]; exact hm) (fun i hi => by rw [slopes_co _ (by omega)]; exact hne i hi) (by rw [slopes_co _ hm]; exact hz)
  unfold tree_Tree_Through.f
  simp -implicitDefEqProofs only [if_pos (show y.length = (hk_ofs l).length by rw [ofs_length]; exact hyl)]
  refine Ev.bind (g := fun _ => tree_Tree_Top.f (hk_ofs l) (rowsOf (ptree l))) (a := nrow (pts l)) ⟨0, fun _ _ => hTop⟩ ?_
  refine Ev.bind hDer ?_
  refine Ev.bind hVal ?_
  refine Ev.bind hI ?_
  simp -implicitDefEqProofs only [if_neg (show ¬ (13 : Int) = 0 by decide)]
  exact Ev.now _
theorem through_k1 (c f : F) (h : f ≠ 0) : c * inv f * f = c := by
  have h1 := mul_inv h
  generalize inv f = g at h1 ⊢
  exact k2 c f g h1
where
  k2 {R : Nat} [NeZero R] (c f g : Fin R) (h : f * g = 1) : c * g * f = c := by grind
/-- The polynomial through the numbers. -/
theorem through_ev {l y : List Int} (h0 : 0 < l.length) (h1 : l.length ≤ 64) (hy : UL y) (hyl : y.length = l.length) (hd : (pts l).Nodup) : ∃ p, Ev (fun k => tree_Tree_Through.f k (hk_ofs l) (rowsOf (ptree l)) y) (p, 0) ∧ TR p ∧ p.length ≤ l.length ∧ ∀ j, j < l.length → rv p (cv (l.getD j 0)) = cv (y.getD j 0) := by
  obtain ⟨hTop, hDer, hVal⟩ := through_slopes h0 h1
  have hzl := pts_length l
  have hsl : ((pts l).map fun a => un (fd (pts l) a)).length = (pts l).length := List.length_map _
  have hne : ∀ i, i < (pts l).length → fd (pts l) ((pts l).getD i 0) ≠ 0 := fun i hi => fd_ne hd (getD_mem' hi 0)
  have hI := gold_Invs_ev (slopes_UL (pts l) (fd (pts l))) (by rw [hsl]; omega) (fun i hi => by rw [hsl] at hi; rw [slopes_co _ hi]; exact hne i hi)
  obtain ⟨iv, hiv⟩ : ∃ iv, iv = tab ((pts l).map fun a => un (fd (pts l) a)).length (fun i => inv (co ((pts l).map fun a => un (fd (pts l) a)) i)) := ⟨_, rfl⟩
  rw [← hiv] at hI
  have hivl : iv.length = (pts l).length := by rw [hiv, tab_length, hsl]
  have hivU : UL iv := by rw [hiv]; exact UL_tab _ _
  have hT := ptree_Tr h0
  generalize ptree l = T at hT hVal hTop
  have hTne := hT.ne
  have hTlen := hT.len
  have hc : ∀ j, j < (pts l).length → cv (y.getD j 0) * cv (iv.getD j 0) = look (pts l) y ((pts l).getD j 0) * inv (fd (pts l) ((pts l).getD j 0)) := fun j hj => by
    rw [look_at _ _ hd (by omega) j hj, hiv, tab_getD _ _ _ (by rw [hsl]; exact hj), cv_un, slopes_co _ hj]
  obtain ⟨ss, hS, hSJ⟩ := through_l4 (c := fun a => look (pts l) y a * inv (fd (pts l) a)) hy (by omega) (by omega) hivl hivU hc y 0 [] rfl (Nat.zero_le _) ⟨rfl, fun j hj => by simp [sing] at hj⟩
  rw [← hT.zero] at hSJ
  obtain ⟨rr, hRR, hRJ⟩ := through_l5 hT (by omega) (T.length - 1) 0 ss (by omega) hSJ
  rw [List.drop_zero, ← rowsOf_length T] at hRR
  rw [hT.top] at hRJ
  obtain ⟨p, rfl⟩ := List.length_eq_one_iff.1 hRJ.1
  obtain ⟨p1, p2, p3⟩ := hRJ.head
  refine ⟨p, ?_, p1, by omega, fun j hj => ?_⟩
  · unfold tree_Tree_Through.f
    simp -implicitDefEqProofs only [if_pos (show y.length = (hk_ofs l).length by rw [ofs_length]; exact hyl)]
    refine Ev.bind (g := fun _ => tree_Tree_Top.f (hk_ofs l) (rowsOf T)) (a := nrow (pts l)) ⟨0, fun _ _ => hTop⟩ ?_
    refine Ev.bind hDer ?_
    refine Ev.bind hVal ?_
    refine Ev.bind hI ?_
    simp -implicitDefEqProofs only [if_true, if_pos (show 0 < (rowsOf T).length ∧ (rowsOf T).length < 4294967296 ∧ y.length < 4294967296 from ⟨by rw [rowsOf_length]; omega, by rw [rowsOf_length]; omega, by omega⟩)]
    refine Ev.bind hS ?_
    refine Ev.bind hRR ?_
    exact Ev.now _
  · have hj2 : j < (pts l).length := by omega
    have e : (pts l).getD j 0 = cv (l.getD j 0) := by unfold pts; exact map_getD _ _ hj 0 0
    rw [← e, p3 _ (getD_mem' hj2 0), through_k1 _ _ (hne j hj2), look_at _ _ hd (by omega) j hj2]

end Go.Proofs.Ytkgakohgbbapaaa.BTreeThrough
