/- What each function of the law QuartersCross answers, in the field's own words: plain contracts over the printed functions. -/
import Derived.Test.YtggmpdmlbjllhaaPQuartersCrossx0
import Derived.Test.YtggmpdmlbjllhaaPQuartersCrossx1
import Derived.Test.YtggmpdmlbjllhaaPQuartersCrossx2
import Derived.Test.YtggmpdmlbjllhaaM12
namespace Go.Proofs.Ytggmpdmlbjllhaa.BQuartersCross
set_option linter.unusedVariables false
set_option linter.unusedSimpArgs false
open Go Go.RowKit Go.Proofs.Ytggmpdmlbjllhaa.M Go.Proofs.Ytggmpdmlbjllhaa.PQuartersCross Go.Proofs.YtggmpdmlbjllhaaW.PrintWords Go.Proofs.YtggmpdmlbjllhaaW.PrintLast Go.Proofs.YtggmpdmlbjllhaaW.PrintMore
/-! Numbers of 64 bits, and what the words of the print do with them. -/
def U (a : Int) : Prop := 0 ≤ a ∧ a < 18446744073709551616
theorem U_un (x : F) : U (un x) := ⟨un_lo x, by have := un_hi x; omega⟩
theorem U_of_wf {a : Int} (h : (Lit.int .u64 a).wf = true) : U a := by
  simp [Lit.wf, IntKind.min, IntKind.max, IntKind.signed, IntKind.bits] at h
  exact ⟨by omega, by omega⟩
theorem i64_of_wf {a : Int} (h : (Lit.int .i64 a).wf = true) : -9223372036854775808 ≤ a ∧ a ≤ 9223372036854775807 := by
  simp [Lit.wf, IntKind.min, IntKind.max, IntKind.signed, IntKind.bits] at h
  exact ⟨by omega, by omega⟩
theorem u32_of_wf {a : Int} (h : (Lit.int .u32 a).wf = true) : 0 ≤ a ∧ a ≤ 4294967295 := by
  simp [Lit.wf, IntKind.min, IntKind.max, IntKind.signed, IntKind.bits] at h
  exact ⟨by omega, by omega⟩
theorem u8_of_wf {a : Int} (h : (Lit.int .u8 a).wf = true) : 0 ≤ a ∧ a ≤ 255 := by
  simp [Lit.wf, IntKind.min, IntKind.max, IntKind.signed, IntKind.bits] at h
  exact ⟨by omega, by omega⟩
theorem wu64 (a : Int) : IntKind.u64.wrap a = a % 18446744073709551616 := by simp [IntKind.wrap, IntKind.bits, IntKind.signed]
theorem wu64_of {a : Int} (h : U a) : IntKind.u64.wrap a = a := by rw [wu64]; have := h.1; have := h.2; omega
theorem U_wrap (a : Int) : U (IntKind.u64.wrap a) := by rw [wu64]; exact ⟨by omega, by omega⟩
theorem and_low {a : Int} (h : U a) : Go.bits .and .u64 a 4294967295 = a % 4294967296 := by
  have := bits_mask .u64 64 (by decide) (fun n h0 h1 => by rw [wu64]; omega) 32 (by decide) a h.1 (by have := h.2; omega)
  simpa using this
theorem and_one {a : Int} (h : U a) : Go.bits .and .u64 a 1 = a % 2 := by
  have := bits_mask .u64 64 (by decide) (fun n h0 h1 => by rw [wu64]; omega) 1 (by decide) a h.1 (by have := h.2; omega)
  simpa using this
theorem wrap64_of {a : Int} (h0 : -9223372036854775808 ≤ a) (h1 : a < 9223372036854775808) : wrap64 a = a := by unfold wrap64; omega
/-- Rows of words. -/
def UL (l : List Int) : Prop := ∀ x ∈ l, U x
theorem UL_of_wf {l : List Int} (h : ∀ x ∈ l, (Lit.int .u64 x).wf = true) : UL l := fun x hx => U_of_wf (h x hx)
theorem U_zero : U 0 := ⟨by omega, by omega⟩
theorem U_one : U 1 := ⟨by omega, by omega⟩
theorem U_getD {l : List Int} (h : UL l) (i : Nat) : U (l.getD i 0) := by
  rw [List.getD_eq_getElem?_getD]
  by_cases hi : i < l.length
  · rw [List.getElem?_eq_getElem hi]; exact h _ (List.getElem_mem hi)
  · rw [List.getElem?_eq_none (by omega)]; exact U_zero
theorem U_rd {l : List Int} (h : UL l) (i : Int) : U (rd l i) := U_getD h _
theorem UL_tab (m : Nat) (f : Nat → F) : UL (tab m f) := by
  intro x hx
  unfold tab at hx
  obtain ⟨j, _, rfl⟩ := List.mem_map.1 hx
  exact U_un _
theorem UL_nil : UL [] := fun x hx => by cases hx
theorem rd_nat (l : List Int) (i : Nat) : rd l (i : Int) = l.getD i 0 := by unfold rd; rw [Int.toNat_natCast]
theorem cv_rd (l : List Int) (i : Nat) : cv (rd l (i : Int)) = co l i := by rw [rd_nat]; rfl
theorem rd_tab {m : Nat} {f : Nat → F} {i : Nat} (h : i < m) : rd (tab m f) (i : Int) = un (f i) := by rw [rd_nat, tab_getD m f i h]
theorem nat64_succ {i : Nat} (h : i < 9223372036854775807) : wrap64 ((i : Int) + 1) = ((i + 1 : Nat) : Int) := by unfold wrap64; omega
theorem nat64_pred {i : Nat} (h : i < 9223372036854775807) : wrap64 ((i + 1 : Nat) - 1 : Int) = (i : Int) := by unfold wrap64; omega
/-- A loop that counts up. -/
theorem Ev_loop {α : Type} {r : α} (n : Nat) (g : Nat → Nat → Option α) (last : Ev (fun k => g k n) r) (step : ∀ i, i < n → Ev (fun k => g k (i + 1)) r → Ev (fun k => g k i) r) (i : Nat) (hi : i ≤ n) : Ev (fun k => g k i) r := by
  have key : ∀ d i, i + d = n → Ev (fun k => g k i) r := by
    intro d
    induction d with
    | zero => intro i hi; obtain rfl : i = n := by omega
              exact last
    | succ d ih => intro i hi; exact step i (by omega) (ih (i + 1) (by omega))
  exact key (n - i) i (by omega)
/-- A loop that counts down. -/
theorem Ev_down {α : Type} {r : α} (n : Nat) (g : Nat → Nat → Option α) (last : Ev (fun k => g k 0) r) (step : ∀ i, i < n → Ev (fun k => g k i) r → Ev (fun k => g k (i + 1)) r) : Ev (fun k => g k n) r := by
  have key : ∀ i, i ≤ n → Ev (fun k => g k i) r := by
    intro i
    induction i with
    | zero => intro _; exact last
    | succ i ih => intro hi; exact step i (by omega) (ih (by omega))
  exact key n (Nat.le_refl n)
theorem down_at (i : Nat) : (((i + 1 : Nat) : Int) - 1) = (i : Int) := by omega
theorem down_next {i : Nat} (h : i < 9223372036854775807) : wrap64 ((i : Int) - 1) = (i : Int) - 1 := by unfold wrap64; omega
theorem len64 {n : Nat} (h : n < 9223372036854775807) : wrap64 ((n : Int) - 1) = (n : Int) - 1 := by unfold wrap64; omega
theorem U_nat {n : Nat} (h : n < 18446744073709551616) : U (n : Int) := ⟨Int.natCast_nonneg _, by omega⟩
theorem two_pow_lt {n m : Nat} (h : n ≤ m) : 2 ^ n ≤ 2 ^ m := Nat.pow_le_pow_right (by omega) h
theorem U_two_pow {n : Nat} (h : n ≤ 63) : U ((2 ^ n : Nat) : Int) := U_nat (by have := two_pow_lt h; omega)
theorem i64wrap (a : Int) : IntKind.i64.wrap a = wrap64 a := by rw [IntKind.wrap_i64]; unfold wrap64; rfl
theorem int_two_pow (n : Nat) : ((2 : Int) ^ n) = ((2 ^ n : Nat) : Int) := by simp
theorem shl_i64 {n : Nat} (h : n ≤ 62) : shl .i64 1 (IntKind.u64.wrap (n : Int)) = ((2 ^ n : Nat) : Int) := by
  have hu : IntKind.u64.wrap (n : Int) = (n : Int) := wu64_of ⟨by omega, by omega⟩
  unfold shl
  rw [hu, Int.toNat_natCast, Nat.min_eq_left (by rw [show IntKind.i64.bits = 64 from rfl]; omega), i64wrap, Int.one_mul, int_two_pow]
  have := two_pow_lt (n := n) (m := 62) h
  generalize 2 ^ n = q at *
  rw [wrap64_of (by omega) (by omega)]
theorem shl_u64 {n : Nat} (h : n ≤ 63) : shl .u64 1 (IntKind.u64.wrap (n : Int)) = ((2 ^ n : Nat) : Int) := by
  have hu : IntKind.u64.wrap (n : Int) = (n : Int) := wu64_of ⟨by omega, by omega⟩
  unfold shl
  rw [hu, Int.toNat_natCast, Nat.min_eq_left (by rw [show IntKind.u64.bits = 64 from rfl]; omega), Int.one_mul, int_two_pow]
  have := two_pow_lt (n := n) (m := 63) h
  generalize 2 ^ n = q at *
  exact wu64_of ⟨by omega, by omega⟩
theorem or_i64 {x n : Nat} (hx : x < 2 ^ n) (hn : n ≤ 62) : Go.bits .or .i64 (x : Int) ((2 ^ n : Nat) : Int) = ((x + 2 ^ n : Nat) : Int) := by
  have h1 := two_pow_lt (n := n) (m := 62) hn
  have h2 : 2 ^ n < 2 ^ 63 := by omega
  have hb := (bits_nat .i64 63 (by decide) (fun n h0 h1 => by rw [i64wrap]; exact wrap64_of (by omega) (by omega)) x (2 ^ n) (by omega) h2).2
  have e := Nat.two_pow_add_eq_or_of_lt hx 1
  rw [Nat.mul_one] at e
  rw [hb, Nat.or_comm, ← e, Nat.add_comm]
theorem getD_take {l : List Int} {d i : Nat} (h : i < d) : (l.take d).getD i 0 = l.getD i 0 := by
  rw [List.getD_eq_getElem?_getD, List.getD_eq_getElem?_getD, List.getElem?_take, if_pos h]
theorem getD_drop (l : List Int) (d i : Nat) : (l.drop d).getD i 0 = l.getD (d + i) 0 := by
  rw [List.getD_eq_getElem?_getD, List.getD_eq_getElem?_getD, List.getElem?_drop]
theorem UL_take {l : List Int} (h : UL l) (d : Nat) : UL (l.take d) := fun x hx => h x (List.mem_of_mem_take hx)
theorem UL_drop {l : List Int} (h : UL l) (d : Nat) : UL (l.drop d) := fun x hx => h x (List.mem_of_mem_drop hx)
theorem co_take {l : List Int} {d i : Nat} (h : i < d) : co (l.take d) i = co l i := by unfold co; rw [getD_take h]
theorem co_drop (l : List Int) (d i : Nat) : co (l.drop d) i = co l (d + i) := by unfold co; rw [getD_drop]
theorem UL_tr (m : Nat) (f : Nat → F) : UL (tr m f) := UL_tab _ _
theorem add64 {a b : Nat} (h : a + b < 9223372036854775808) : wrap64 ((a : Int) + (b : Int)) = ((a + b : Nat) : Int) := by unfold wrap64; omega
theorem sub64 {a b : Nat} (h : b ≤ a) (h2 : a < 9223372036854775808) : wrap64 ((a : Int) - (b : Int)) = ((a - b : Nat) : Int) := by unfold wrap64; omega
theorem UL_cons {a : Int} {l : List Int} (h : U a) (hl : UL l) : UL (a :: l) := by
  intro x hx
  rcases List.mem_cons.1 hx with rfl | hx
  · exact h
  · exact hl x hx
theorem co_cons_zero (a : Int) (l : List Int) : co (a :: l) 0 = cv a := rfl
theorem co_cons_succ (a : Int) (l : List Int) (i : Nat) : co (a :: l) (i + 1) = co l i := rfl

/-! ### bits_Add64 -/
theorem bits_Add64_eq {a b c : Int} (ha : 0 ≤ a) (hb : 0 ≤ b) (h0 : 0 ≤ c) (h1 : c ≤ 1) : bits_Add64.f a b c = some ((a + b + c) % 18446744073709551616, (a + b + c) / 18446744073709551616) := by
  unfold bits_Add64.f
  rw [if_pos ha, if_pos hb, if_pos h0, if_pos h1]

/-! ### wide_Add -/
theorem wide_Add_eq {a b c d : Int} (ha : U a) (hb : U b) (hc : U c) (hd : U d) :
    wide_Add.f a b c d = some ((a * 18446744073709551616 + b + (c * 18446744073709551616 + d)) / 18446744073709551616 % 18446744073709551616, (a * 18446744073709551616 + b + (c * 18446744073709551616 + d)) % 18446744073709551616, (a * 18446744073709551616 + b + (c * 18446744073709551616 + d)) / 340282366920938463463374607431768211456) := by
  have := ha.1; have := ha.2; have := hb.1; have := hb.2; have := hc.1; have := hc.2; have := hd.1; have := hd.2
  unfold wide_Add.f
  rw [bits_Add64_eq hb.1 hd.1 (by omega) (by omega)]
  simp only [Option.bind_some]
  rw [bits_Add64_eq ha.1 hc.1 (by omega) (by omega)]
  simp only [Option.bind_some, Option.some.injEq, Prod.mk.injEq]
  exact ⟨by omega, by omega, by omega⟩

/-! ### gold_Of -/
theorem gold_Of_eq {a : Int} (h : U a) : gold_Of.f a = some (un (cv a)) := by
  unfold gold_Of.f
  rw [un_cv]
  have := h.1; have := h.2
  by_cases c : a ≥ 18446744069414584321
  · rw [if_pos c, wu64]; congr 1; omega
  · rw [if_neg c]; congr 1; omega

/-! ### gold_Reduce -/
theorem gold_Reduce_eq {hi lo : Int} (h : U hi) (h2 : U lo) : gold_Reduce.f hi lo = some (un (cv (hi * 18446744073709551616 + lo))) := by
  have e0 := h.1; have e1 := h.2; have e2 := h2.1; have e3 := h2.2
  unfold gold_Reduce.f
  rw [and_low h]
  simp only [wu64]
  have top : hi = 4294967296 * (hi / 4294967296) + hi % 4294967296 := by omega
  generalize hi / 4294967296 = t at *
  generalize hm : hi % 4294967296 = m at *
  have hm0 : 0 ≤ m := by omega
  have hm1 : m < 4294967296 := by omega
  have ht0 : 0 ≤ t := by omega
  have ht1 : t < 4294967296 := by omega
  have e : m * 4294967295 % 18446744073709551616 = m * 4294967295 := by omega
  rw [e]
  by_cases c1 : lo < t
  · rw [if_pos c1]
    have a1 : (lo - t) % 18446744073709551616 = lo - t + 18446744073709551616 := by omega
    rw [a1]
    have a2 : (lo - t + 18446744073709551616 - 4294967295) % 18446744073709551616 = lo - t + 18446744073709551616 - 4294967295 := by omega
    rw [a2]
    by_cases c2 : (lo - t + 18446744073709551616 - 4294967295 + m * 4294967295) % 18446744073709551616 < m * 4294967295
    · have c3 : (lo - t + 18446744073709551616 - 4294967295 + m * 4294967295) % 18446744073709551616 = lo - t - 4294967295 + m * 4294967295 := by omega
      have c4 : (lo - t - 4294967295 + m * 4294967295 + 4294967295) % 18446744073709551616 = lo - t + m * 4294967295 := by omega
      rw [if_pos c2, c3, c4, gold_Of_eq ⟨by omega, by omega⟩]
      simp only [Option.bind_some, Option.some.injEq, un_inj_iff]
      exact cv_of_eq (-(t * 4294967297 + m)) (by omega)
    · have c3 : (lo - t + 18446744073709551616 - 4294967295 + m * 4294967295) % 18446744073709551616 = lo - t + 18446744073709551616 - 4294967295 + m * 4294967295 := by omega
      rw [if_neg c2, c3, gold_Of_eq ⟨by omega, by omega⟩]
      simp only [Option.bind_some, Option.some.injEq, un_inj_iff]
      exact cv_of_eq (-(t * 4294967297 + m) + 1) (by omega)
  · rw [if_neg c1]
    have a1 : (lo - t) % 18446744073709551616 = lo - t := by omega
    rw [a1]
    by_cases c2 : (lo - t + m * 4294967295) % 18446744073709551616 < m * 4294967295
    · have c3 : (lo - t + m * 4294967295) % 18446744073709551616 = lo - t + m * 4294967295 - 18446744073709551616 := by omega
      have c4 : (lo - t + m * 4294967295 - 18446744073709551616 + 4294967295) % 18446744073709551616 = lo - t + m * 4294967295 - 18446744069414584321 := by omega
      rw [if_pos c2, c3, c4, gold_Of_eq ⟨by omega, by omega⟩]
      simp only [Option.bind_some, Option.some.injEq, un_inj_iff]
      exact cv_of_eq (-(t * 4294967297 + m) - 1) (by omega)
    · have c3 : (lo - t + m * 4294967295) % 18446744073709551616 = lo - t + m * 4294967295 := by omega
      rw [if_neg c2, c3, gold_Of_eq ⟨by omega, by omega⟩]
      simp only [Option.bind_some, Option.some.injEq, un_inj_iff]
      exact cv_of_eq (-(t * 4294967297 + m)) (by omega)

/-! ### gold_Add -/
theorem gold_Add_eq {a b : Int} (ha : U a) (hb : U b) : gold_Add.f a b = some (un (cv a + cv b)) := by
  unfold gold_Add.f
  rw [gold_Of_eq ha, gold_Of_eq hb]
  simp only [Option.bind_some]
  rw [wide_Add_eq ⟨by omega, by omega⟩ (U_un _) ⟨by omega, by omega⟩ (U_un _)]
  simp only [Option.bind_some]
  have h0 := un_lo (cv a); have h1 := un_hi (cv a); have h2 := un_lo (cv b); have h3 := un_hi (cv b)
  rw [gold_Reduce_eq ⟨by omega, by omega⟩ ⟨by omega, by omega⟩]
  simp only [Option.bind_some]
  have e : cv a + cv b = cv (un (cv a) + un (cv b)) := by rw [cv_add, cv_un, cv_un]
  rw [e]
  congr 2
  exact cv_of_eq 0 (by omega)

/-! ### gold_Neg -/
theorem gold_Neg_eq {a : Int} (h : U a) : gold_Neg.f a = some (un (- cv a)) := by
  unfold gold_Neg.f
  rw [gold_Of_eq h]
  simp only [Option.bind_some, un_neg, un_cv]
  by_cases c : a % 18446744069414584321 = 0
  · rw [if_pos c, c]; rfl
  · rw [if_neg c, wu64]; congr 1; omega

/-! ### gold_Sub -/
theorem gold_Sub_eq {a b : Int} (ha : U a) (hb : U b) : gold_Sub.f a b = some (un (cv a - cv b)) := by
  unfold gold_Sub.f
  rw [gold_Neg_eq hb]
  simp only [Option.bind_some]
  rw [gold_Add_eq ha (U_un _)]
  simp only [Option.bind_some, cv_un]
  congr 2; grind

/-! ### bits_Mul64 -/
theorem mul64_arith (a b : Int) (ha : U a) (hb : U b) :
    IntKind.u64.wrap ((IntKind.u64.wrap ((IntKind.u64.wrap ((a / 4294967296) * (b / 4294967296))) + ((IntKind.u64.wrap ((IntKind.u64.wrap ((a / 4294967296) * (b % 4294967296))) + ((IntKind.u64.wrap ((a % 4294967296) * (b % 4294967296))) / 4294967296))) / 4294967296))) + ((IntKind.u64.wrap ((Go.bits .and .u64 (IntKind.u64.wrap ((IntKind.u64.wrap ((a / 4294967296) * (b % 4294967296))) + ((IntKind.u64.wrap ((a % 4294967296) * (b % 4294967296))) / 4294967296))) 4294967295) + (IntKind.u64.wrap ((a % 4294967296) * (b / 4294967296))))) / 4294967296)) = a * b / 18446744073709551616 := by
  rw [and_low (U_wrap _)]
  simp only [wu64]
  have a0 := ha.1; have a1 := ha.2; have b0 := hb.1; have b1 := hb.2
  have ea : a = 4294967296 * (a / 4294967296) + a % 4294967296 := by omega
  have eb : b = 4294967296 * (b / 4294967296) + b % 4294967296 := by omega
  have x0 : 0 ≤ a / 4294967296 := by omega
  have x1 : a / 4294967296 ≤ 4294967295 := by omega
  have y0 : 0 ≤ b / 4294967296 := by omega
  have y1 : b / 4294967296 ≤ 4294967295 := by omega
  have u0 : 0 ≤ a % 4294967296 := by omega
  have u1 : a % 4294967296 ≤ 4294967295 := by omega
  have v0 : 0 ≤ b % 4294967296 := by omega
  have v1 : b % 4294967296 ≤ 4294967295 := by omega
  generalize a / 4294967296 = x at *
  generalize b / 4294967296 = y at *
  generalize a % 4294967296 = u at *
  generalize b % 4294967296 = v at *
  have key : ∀ p q : Int, 0 ≤ p → p ≤ 4294967295 → 0 ≤ q → q ≤ 4294967295 → 0 ≤ p * q ∧ p * q ≤ 18446744065119617025 := by
    intro p q p0 p1 q0 q1
    refine ⟨Int.mul_nonneg p0 q0, ?_⟩
    have := Int.mul_le_mul p1 q1 q0 (by omega)
    omega
  have hxy := key x y x0 x1 y0 y1
  have hxv := key x v x0 x1 v0 v1
  have huv := key u v u0 u1 v0 v1
  have huy := key u y u0 u1 y0 y1
  have eab : a * b = 18446744073709551616 * (x * y) + 4294967296 * (x * v) + 4294967296 * (u * y) + u * v := by
    rw [ea, eb]; grind
  rw [eab]
  generalize x * y = xy at *
  generalize x * v = xv at *
  generalize u * v = uv at *
  generalize u * y = uy at *
  clear ea eb eab key
  rw [Int.emod_eq_of_lt hxy.1 (by omega), Int.emod_eq_of_lt hxv.1 (by omega), Int.emod_eq_of_lt huv.1 (by omega), Int.emod_eq_of_lt huy.1 (by omega)]
  rw [Int.emod_eq_of_lt (a := xv + uv / 4294967296) (by omega) (by omega)]
  omega
theorem bits_Mul64_eq {a b : Int} (ha : U a) (hb : U b) : bits_Mul64.f a b = some (a * b / 18446744073709551616, a * b % 18446744073709551616) := by
  unfold bits_Mul64.f
  rw [and_low ha, and_low hb, mul64_arith a b ha hb, wu64]

/-! ### wide_Mul -/
theorem wide_Mul_eq {a b : Int} (ha : U a) (hb : U b) : wide_Mul.f a b = some (a * b / 18446744073709551616, a * b % 18446744073709551616) := by
  unfold wide_Mul.f
  rw [bits_Mul64_eq ha hb]; rfl
theorem U_wide {a b : Int} (ha : U a) (hb : U b) : U (a * b / 18446744073709551616) ∧ U (a * b % 18446744073709551616) := by
  have h0 := Int.mul_nonneg ha.1 hb.1
  have h1 : a * b ≤ 18446744073709551615 * 18446744073709551615 := Int.mul_le_mul (by have := ha.2; omega) (by have := hb.2; omega) hb.1 (by omega)
  generalize a * b = c at *
  exact ⟨⟨by omega, by omega⟩, ⟨by omega, by omega⟩⟩

/-! ### gold_Mul -/
theorem gold_Mul_eq {a b : Int} (ha : U a) (hb : U b) : gold_Mul.f a b = some (un (cv a * cv b)) := by
  unfold gold_Mul.f
  rw [wide_Mul_eq ha hb]
  simp only [Option.bind_some]
  rw [gold_Reduce_eq (U_wide ha hb).1 (U_wide ha hb).2]
  simp only [Option.bind_some, ← cv_mul]
  congr 3
  omega

/-! ### kern4_Cross -/
theorem hk_crossO_eq {a b c d u : Int} (ha : U a) (hb : U b) (hc : U c) (hd : U d) (hu : U u) :
    hk_crossO a b c d u = some (un ((cv a + cv c) + (cv b + cv d)), un ((cv a - cv c) + cv u * (cv b - cv d)), un ((cv a + cv c) - (cv b + cv d)), un ((cv a - cv c) - cv u * (cv b - cv d))) := by
  unfold hk_crossO
  rw [gold_Add_eq ha hc, Option.bind_some, gold_Sub_eq ha hc, Option.bind_some, gold_Add_eq hb hd, Option.bind_some, gold_Sub_eq hb hd, Option.bind_some, gold_Mul_eq hu (U_un _), Option.bind_some, gold_Add_eq (U_un _) (U_un _), Option.bind_some, gold_Add_eq (U_un _) (U_un _), Option.bind_some, gold_Sub_eq (U_un _) (U_un _), Option.bind_some, gold_Sub_eq (U_un _) (U_un _), Option.bind_some]
  simp -implicitDefEqProofs only [cv_un]

/-! ### root_good -/
theorem root_good_yes {a : Int} (h0 : 0 ≤ a) (h1 : a ≤ 32) : root_good.f a = some true := by
  unfold root_good.f; rw [if_pos h0, decide_eq_true h1]
theorem root_good_no {a : Int} (h : a < 0 ∨ 32 < a) : root_good.f a = some false := by
  unfold root_good.f
  by_cases c : a ≥ 0
  · rw [if_pos c, decide_eq_false (by omega)]
  · rw [if_neg c]

/-! ### gold_Pow -/
theorem gold_Pow_l0_ev : ∀ (m : Nat) (n : Nat) (x y : F), n < 2 ^ m → n < 18446744073709551616 → Ev (fun k => gold_Pow.l0 k (n : Int) (un x) (un y)) (un (x * y ^ n))
  | 0, n, x, y, h, _ => by
    obtain rfl : n = 0 := by simpa using h
    refine Ev.step (f := fun _ => some (un x)) (fun k => ?_) ?_
    · simp only [gold_Pow.l0]; rw [if_neg (by omega)]
    · have : x * y ^ 0 = x := by grind
      rw [this]; exact Ev.now _
  | m + 1, n, x, y, h, hn => by
    have hm : n / 2 < 2 ^ m := by rw [Nat.pow_succ] at h; omega
    have e2 : ((n : Int) / 2) = ((n / 2 : Nat) : Int) := by omega
    by_cases h0 : n = 0
    · subst h0
      refine Ev.step (f := fun _ => some (un x)) (fun k => ?_) ?_
      · simp only [gold_Pow.l0]; rw [if_neg (by omega)]
      · have : x * y ^ 0 = x := by grind
        rw [this]; exact Ev.now _
    · have hU : U (n : Int) := ⟨by omega, by omega⟩
      by_cases h1 : n % 2 = 1
      · refine Ev.step (f := fun k => gold_Pow.l0 k ((n / 2 : Nat) : Int) (un (x * y)) (un (y * y))) (fun k => ?_) ?_
        · simp only [gold_Pow.l0]
          rw [if_pos (by omega), and_one hU, if_pos (by omega), gold_Mul_eq (U_un _) (U_un _), gold_Mul_eq (U_un _) (U_un _), e2]
          simp only [Option.bind_some, cv_un]
        · have ih := gold_Pow_l0_ev m (n / 2) (x * y) (y * y) hm (by omega)
          have e : x * y * (y * y) ^ (n / 2) = x * y ^ n := by
            have : n = 2 * (n / 2) + 1 := by omega
            rw [show y * y = y ^ 2 by grind, ← pow_mul']
            rw [show x * y * y ^ (2 * (n / 2)) = x * y ^ (2 * (n / 2) + 1) by grind, ← this]
          rw [e] at ih; exact ih
      · refine Ev.step (f := fun k => gold_Pow.l0 k ((n / 2 : Nat) : Int) (un x) (un (y * y))) (fun k => ?_) ?_
        · simp only [gold_Pow.l0]
          rw [if_pos (by omega), and_one hU, if_neg (by omega), gold_Mul_eq (U_un _) (U_un _), e2]
          simp only [Option.bind_some, cv_un]
        · have ih := gold_Pow_l0_ev m (n / 2) x (y * y) hm (by omega)
          have e : x * (y * y) ^ (n / 2) = x * y ^ n := by
            have : n = 2 * (n / 2) := by omega
            rw [show y * y = y ^ 2 by grind, ← pow_mul', ← this]
          rw [e] at ih; exact ih
theorem gold_Pow_ev {a n : Int} (ha : U a) (hn : U n) : Ev (fun k => gold_Pow.f k a n) (un (cv a ^ n.toNat)) := by
  have h := gold_Pow_l0_ev 64 n.toNat 1 (cv a) (by have := hn.2; omega) (by have := hn.2; omega)
  rw [un_one, Int.toNat_of_nonneg hn.1] at h
  have e : 1 * cv a ^ n.toNat = cv a ^ n.toNat := by grind
  rw [e] at h
  refine Ev.congr (fun k => ?_) h
  unfold gold_Pow.f
  rw [gold_Of_eq ha]; rfl

/-! ### root_root -/
theorem shr_word {k : Nat} (hk : k ≤ 32) : shr .u64 18446744069414584320 (IntKind.u64.wrap (k : Int)) = ((18446744069414584320 / 2 ^ k : Nat) : Int) := by
  unfold shr
  rw [wu64_of ⟨by omega, by omega⟩, Int.toNat_natCast, Nat.min_eq_left (by rw [show IntKind.u64.bits = 64 from rfl]; omega)]
  rw [Int.natCast_ediv]; congr 1
theorem root_root_ev {k : Nat} (hk : k ≤ 32) : Ev (fun n => root_root.f n (k : Int)) (un (rt k)) := by
  unfold root_root.f
  have c : (0 : Int) ≤ IntKind.u64.wrap (k : Int) := (U_wrap _).1
  have hp : 18446744069414584320 / 2 ^ k ≤ 18446744069414584320 := Nat.div_le_self _ _
  simp -implicitDefEqProofs only [c, if_true, shr_word hk]
  have hu : U ((18446744069414584320 / 2 ^ k : Nat) : Int) := by
    generalize 18446744069414584320 / 2 ^ k = q at *
    exact ⟨by omega, by omega⟩
  refine Ev.bind (gold_Pow_ev ⟨by omega, by omega⟩ hu) ?_
  rw [Int.toNat_natCast]
  exact Ev.now _

/-! ### root_Root -/
theorem root_Root_ev {k : Nat} (hk : k ≤ 32) : Ev (fun n => root_Root.f n (k : Int)) (un (rt k), 0) := by
  unfold root_Root.f
  rw [root_good_yes (by omega) (by omega)]
  simp -implicitDefEqProofs only [Option.bind_some, if_true]
  exact Ev.bind (root_root_ev hk) (Ev.now _)
theorem root_Root_no {k : Int} (h : k < 0 ∨ 32 < k) : Ev (fun n => root_Root.f n k) (0, 1) := by
  unfold root_Root.f
  rw [root_good_no h]
  simp -implicitDefEqProofs only [Option.bind_some, show ¬ (false = true) by decide, if_false]
  exact Ev.now _

/-! ### gold_Inv -/
def erz (x : F) : Int := if x = 0 then 13 else 0
theorem erz_ne {x : F} (h : x ≠ 0) : erz x = 0 := if_neg h
theorem erz_zero : erz 0 = 13 := if_pos rfl
theorem gold_Inv_ev {a : Int} (h : U a) : Ev (fun k => gold_Inv.f k a) (un (inv (cv a)), erz (cv a)) := by
  unfold gold_Inv.f
  rw [gold_Of_eq h]
  simp -implicitDefEqProofs only [Option.bind_some]
  by_cases c : cv a = 0
  · have c' : un (cv a) = 0 := un_eq_zero.2 c
    simp -implicitDefEqProofs only [c', if_true]
    rw [c, inv_zero, erz_zero, un_zero]; exact Ev.now _
  · have c' : ¬ un (cv a) = 0 := fun h => c (un_eq_zero.1 h)
    simp -implicitDefEqProofs only [c', if_false, erz_ne c]
    refine Ev.bind (gold_Pow_ev h ⟨by omega, by omega⟩) ?_
    exact Ev.now _

/-! ### root_Back -/
theorem root_Back_ev {k : Nat} (hk : k ≤ 32) : Ev (fun n => root_Back.f n (k : Int)) (un (inv (rt k)), 0) := by
  unfold root_Back.f
  rw [root_good_yes (by omega) (by omega)]
  simp -implicitDefEqProofs only [Option.bind_some, if_true]
  refine Ev.bind (root_root_ev hk) ?_
  have h := gold_Inv_ev (U_un (rt k))
  rw [cv_un, erz_ne (rt_ne_zero k)] at h
  refine Ev.bind h ?_
  exact Ev.now _
theorem root_Back_no {k : Int} (h : k < 0 ∨ 32 < k) : Ev (fun n => root_Back.f n k) (0, 1) := by
  unfold root_Back.f
  rw [root_good_no h]
  simp -implicitDefEqProofs only [Option.bind_some, show ¬ (false = true) by decide, if_false]
  exact Ev.now _

/-! ### twid_Root -/
theorem twid_Root_ev {k : Nat} (hk : k ≤ 32) {d : Int} (hd : d = 0 ∨ d = 1) : Ev (fun n => twid_Root.f n (k : Int) d) (un (dr k d), 0) := by
  unfold twid_Root.f
  simp -implicitDefEqProofs only [show ¬ (k : Int) < 0 by omega, if_false, decide_eq_false (show ¬ (k : Int) > 32 by omega)]
  refine Ev.step (fun n => twid_Root.j0.eq_2 ..) ?_
  rcases hd with rfl | rfl
  · simp -implicitDefEqProofs only [show ¬ (false = true) by decide, if_false, if_true]
    refine Ev.bind (root_Root_ev hk) ?_
    rw [dr_fwd]; exact Ev.now _
  · simp -implicitDefEqProofs only [show ¬ (false = true) by decide, if_false, if_true, show ¬ (1 : Int) = 0 by omega]
    refine Ev.bind (root_Back_ev hk) ?_
    rw [dr_inv]; exact Ev.now _
theorem twid_Root_arg {k d : Int} (h : k < 0 ∨ 32 < k) : Ev (fun n => twid_Root.f n k d) (0, 1) := by
  have last : Ev (fun n => twid_Root.j0 n k d true) (0, 1) := by
    refine Ev.step (fun n => twid_Root.j0.eq_2 ..) ?_
    exact Ev.now _
  unfold twid_Root.f
  by_cases c : k < 0
  · simp -implicitDefEqProofs only [c, if_true]
    exact last
  · simp -implicitDefEqProofs only [c, if_false, decide_eq_true (show k > 32 by omega)]
    exact last
theorem twid_Root_kind {k d : Int} (h : ¬ (k < 0 ∨ 32 < k)) (hd : ¬ (d = 0 ∨ d = 1)) : Ev (fun n => twid_Root.f n k d) (0, 18) := by
  unfold twid_Root.f
  simp -implicitDefEqProofs only [show ¬ k < 0 by omega, if_false, decide_eq_false (show ¬ k > 32 by omega)]
  refine Ev.step (fun n => twid_Root.j0.eq_2 ..) ?_
  simp -implicitDefEqProofs only [show ¬ (false = true) by decide, if_false, show ¬ d = 0 by omega, show ¬ d = 1 by omega]
  exact Ev.now _

/-! ### kern4_Unit -/
theorem kern4_Unit_ev {d : Int} (hd : d = 0 ∨ d = 1) : Ev (fun n => kern4_Unit.f n d) (un (dr 2 d), 0) := by
  unfold kern4_Unit.f
  refine Ev.bind (twid_Root_ev (k := 2) (by omega) hd) ?_
  exact Ev.now _
theorem kern4_Unit_kind {d : Int} (hd : ¬ (d = 0 ∨ d = 1)) : Ev (fun n => kern4_Unit.f n d) (0, 18) := by
  unfold kern4_Unit.f
  refine Ev.bind (twid_Root_kind (k := 2) (by omega) hd) ?_
  exact Ev.now _
theorem dr_two_sq {d : Int} (hd : d = 0 ∨ d = 1) : dr 2 d * dr 2 d = -1 := by
  have h1 : dr 2 0 * dr 2 0 = -1 := by rw [dr_fwd, rt_sq (by omega), rt_one]
  rcases hd with rfl | rfl
  · exact h1
  · have h2 := dr_other 2 (d := 0) (.inl rfl)
    exact k1 _ _ h1 h2
where k1 {R : Nat} [NeZero R] (x y : Fin R) (h1 : x * x = -1) (h2 : x * y = 1) : y * y = -1 := by grind

/-! ### abacistlaw10_awake -/
theorem abacistlaw10_awake_ev : Ev (fun n => abacistlaw10_awake.f n) true := by
  unfold abacistlaw10_awake.f
  have e : hk_crossO 1 0 0 0 5 = some (1, 1, 1, 1) := by decide +kernel
  simp -implicitDefEqProofs only [e, Option.bind_some, if_true]
  refine Ev.bind (kern4_Unit_ev (.inl rfl)) ?_
  have e2 : un (dr 2 0) = 281474976710656 := by
    have hf : fpow 64 7 4611686017353646080 = 281474976710656 := by decide +kernel
    have h : dr 2 0 = cv ((281474976710656 : Nat) : Int) := by
      rw [dr_fwd, ← hf, fpow_eq 64 7 4611686017353646080 (by decide)]
      unfold rt
      rw [show 18446744069414584320 / 2 ^ 2 = 4611686017353646080 by decide]
      rfl
    rw [h]
    exact un_cv_of _ (by omega) (by omega)
  simp -implicitDefEqProofs only [e2, if_true]
  exact Ev.now _

/-! ### abacistref02_Of -/
theorem abacistref02_Of_eq {a : Int} (h : 0 ≤ a) : abacistref02_Of.f a = some (un (cv a)) := by
  unfold abacistref02_Of.f
  rw [un_cv, Int.tmod_eq_emod_of_nonneg h]

/-! ### abacistref02_Add -/
theorem abacistref02_Add_eq {a b : Int} (ha : 0 ≤ a) (hb : 0 ≤ b) : abacistref02_Add.f a b = some (un (cv a + cv b)) := by
  unfold abacistref02_Add.f
  rw [abacistref02_Of_eq ha, abacistref02_Of_eq hb]
  simp only [Option.bind_some]
  have h0 := un_lo (cv a); have h1 := un_hi (cv a); have h2 := un_lo (cv b); have h3 := un_hi (cv b)
  rw [un_add]
  simp only [wu64]
  have e : (18446744069414584321 - un (cv b)) % 18446744073709551616 = 18446744069414584321 - un (cv b) := by omega
  rw [e]
  split <;> congr 1 <;> omega

/-! ### abacistref02_Sub -/
theorem abacistref02_Sub_eq {a b : Int} (ha : 0 ≤ a) (hb : 0 ≤ b) : abacistref02_Sub.f a b = some (un (cv a - cv b)) := by
  unfold abacistref02_Sub.f
  rw [abacistref02_Of_eq ha, abacistref02_Of_eq hb]
  simp only [Option.bind_some]
  have h0 := un_lo (cv a); have h1 := un_hi (cv a); have h2 := un_lo (cv b); have h3 := un_hi (cv b)
  rw [un_sub]
  simp only [wu64]
  split <;> congr 1 <;> omega

/-! ### abacistref02_Mul -/
theorem abacistref02_Mul_l0_ev : ∀ (m : Nat) (n : Nat) (x y : F), n < 2 ^ m → n < 18446744073709551616 → Ev (fun k => abacistref02_Mul.l0 k (un x) (n : Int) (un y)) (un (y + x * cv n))
  | 0, n, x, y, h, _ => by
    obtain rfl : n = 0 := by simpa using h
    refine Ev.step (f := fun _ => some (un y)) (fun k => ?_) ?_
    · simp only [abacistref02_Mul.l0]; rw [if_neg (by omega)]
    · have : y + x * cv ((0 : Nat) : Int) = y := by rw [show cv ((0 : Nat) : Int) = 0 from rfl]; grind
      rw [this]; exact Ev.now _
  | m + 1, n, x, y, h, hn => by
    have hm : n / 2 < 2 ^ m := by rw [Nat.pow_succ] at h; omega
    have e2 : IntKind.u64.wrap (Int.tdiv (n : Int) 2) = ((n / 2 : Nat) : Int) := by
      rw [Int.tdiv_eq_ediv_of_nonneg (by omega), wu64]; omega
    by_cases h0 : n = 0
    · subst h0
      refine Ev.step (f := fun _ => some (un y)) (fun k => ?_) ?_
      · simp only [abacistref02_Mul.l0]; rw [if_neg (by omega)]
      · have : y + x * cv ((0 : Nat) : Int) = y := by rw [show cv ((0 : Nat) : Int) = 0 from rfl]; grind
        rw [this]; exact Ev.now _
    · have em : Int.tmod (n : Int) 2 = (n : Int) % 2 := Int.tmod_eq_emod_of_nonneg (by omega)
      by_cases h1 : n % 2 = 1
      · refine Ev.step (f := fun k => abacistref02_Mul.l0 k (un (x + x)) ((n / 2 : Nat) : Int) (un (y + x))) (fun k => ?_) ?_
        · simp only [abacistref02_Mul.l0]
          rw [if_pos (by omega), em, if_pos (by omega), abacistref02_Add_eq (un_lo _) (un_lo _), abacistref02_Add_eq (un_lo _) (un_lo _), e2]
          simp only [Option.bind_some, cv_un]
        · have ih := abacistref02_Mul_l0_ev m (n / 2) (x + x) (y + x) hm (by omega)
          have e : y + x + (x + x) * cv ((n / 2 : Nat) : Int) = y + x * cv n := by
            have : (n : Int) = (1 + (((n / 2 : Nat) : Int) + ((n / 2 : Nat) : Int))) := by omega
            rw [this, cv_add, cv_add, cv_one]; grind
          rw [e] at ih; exact ih
      · refine Ev.step (f := fun k => abacistref02_Mul.l0 k (un (x + x)) ((n / 2 : Nat) : Int) (un y)) (fun k => ?_) ?_
        · simp only [abacistref02_Mul.l0]
          rw [if_pos (by omega), em, if_neg (by omega), abacistref02_Add_eq (un_lo _) (un_lo _), e2]
          simp only [Option.bind_some, cv_un]
        · have ih := abacistref02_Mul_l0_ev m (n / 2) (x + x) y hm (by omega)
          have e : y + (x + x) * cv ((n / 2 : Nat) : Int) = y + x * cv n := by
            have : (n : Int) = (((n / 2 : Nat) : Int) + ((n / 2 : Nat) : Int)) := by omega
            rw [this, cv_add]; grind
          rw [e] at ih; exact ih
theorem abacistref02_Mul_ev {a n : Int} (ha : 0 ≤ a) (hn : U n) : Ev (fun k => abacistref02_Mul.f k a n) (un (cv a * cv n)) := by
  have h := abacistref02_Mul_l0_ev 64 n.toNat (cv a) 0 (by have := hn.2; omega) (by have := hn.2; omega)
  rw [un_zero, Int.toNat_of_nonneg hn.1] at h
  have e : 0 + cv a * cv n = cv a * cv n := by grind
  rw [e] at h
  refine Ev.congr (fun k => ?_) h
  unfold abacistref02_Mul.f
  rw [abacistref02_Of_eq ha]; rfl

/-! ### kern4_Steps -/
theorem kern4_Steps_no {k : Int} (h : k < 0 ∨ 20 < k) : kern4_Steps.f k = some (0, 0, 1) := by
  unfold kern4_Steps.f
  by_cases c : k < 0
  · rw [if_pos c]
  · rw [if_neg c, if_pos (by omega)]
theorem kern4_Steps_yes {k : Nat} (h : k ≤ 20) : kern4_Steps.f (k : Int) = some (((k / 2 : Nat) : Int), ((k % 2 : Nat) : Int), 0) := by
  unfold kern4_Steps.f
  rw [if_neg (by omega), if_neg (by omega), Int.tdiv_eq_ediv_of_nonneg (by omega), Int.tmod_eq_emod_of_nonneg (by omega), wrap64_of (by omega) (by omega)]
  rfl

end Go.Proofs.Ytggmpdmlbjllhaa.BQuartersCross
