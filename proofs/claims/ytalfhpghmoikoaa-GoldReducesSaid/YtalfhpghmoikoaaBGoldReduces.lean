/- What each function of the law GoldReduces answers, in the field's own words: plain contracts over the printed functions. -/
import Derived.Test.YtalfhpghmoikoaaPGoldReducesx0
import Derived.Test.YtalfhpghmoikoaaPGoldReducesx1
import Derived.Test.YtalfhpghmoikoaaPGoldReducesx2
import Derived.Test.YtalfhpghmoikoaaPGoldReducesx3
import Derived.Test.YtalfhpghmoikoaaM9
namespace Go.Proofs.Ytalfhpghmoikoaa.BGoldReduces
set_option linter.unusedVariables false
set_option linter.unusedSimpArgs false
open Go Go.RowKit Go.Proofs.Ytalfhpghmoikoaa.M Go.Proofs.Ytalfhpghmoikoaa.PGoldReduces Go.Proofs.YtalfhpghmoikoaaW.PrintWords Go.Proofs.YtalfhpghmoikoaaW.PrintLast Go.Proofs.YtalfhpghmoikoaaW.PrintMore
/-! Numbers of 64 bits, and what the words of the print do with them. -/
def U (a : Int) : Prop := 0 ≤ a ∧ a < 18446744073709551616
theorem U_un (x : F) : U (un x) := ⟨un_lo x, by have := un_hi x; omega⟩
theorem U_of_wf {a : Int} (h : (Lit.int .u64 a).wf = true) : U a := by
  simp [Lit.wf, IntKind.min, IntKind.max, IntKind.signed, IntKind.bits] at h
  exact ⟨by omega, by omega⟩
theorem i64_of_wf {a : Int} (h : (Lit.int .i64 a).wf = true) : -9223372036854775808 ≤ a ∧ a ≤ 9223372036854775807 := by
  simp [Lit.wf, IntKind.min, IntKind.max, IntKind.signed, IntKind.bits] at h
  exact ⟨by omega, by omega⟩
theorem u32_of_wf {a : Int} (h : (Lit.int .u32 a).wf = true) : 0 ≤ a ∧ a ≤ 4294967295 := by
  simp [Lit.wf, IntKind.min, IntKind.max, IntKind.signed, IntKind.bits] at h
  exact ⟨by omega, by omega⟩
theorem u8_of_wf {a : Int} (h : (Lit.int .u8 a).wf = true) : 0 ≤ a ∧ a ≤ 255 := by
  simp [Lit.wf, IntKind.min, IntKind.max, IntKind.signed, IntKind.bits] at h
  exact ⟨by omega, by omega⟩
theorem wu64 (a : Int) : IntKind.u64.wrap a = a % 18446744073709551616 := by simp [IntKind.wrap, IntKind.bits, IntKind.signed]
theorem wu64_of {a : Int} (h : U a) : IntKind.u64.wrap a = a := by rw [wu64]; have := h.1; have := h.2; omega
theorem U_wrap (a : Int) : U (IntKind.u64.wrap a) := by rw [wu64]; exact ⟨by omega, by omega⟩
theorem and_low {a : Int} (h : U a) : Go.bits .and .u64 a 4294967295 = a % 4294967296 := by
  have := bits_mask .u64 64 (by decide) (fun n h0 h1 => by rw [wu64]; omega) 32 (by decide) a h.1 (by have := h.2; omega)
  simpa using this
theorem and_one {a : Int} (h : U a) : Go.bits .and .u64 a 1 = a % 2 := by
  have := bits_mask .u64 64 (by decide) (fun n h0 h1 => by rw [wu64]; omega) 1 (by decide) a h.1 (by have := h.2; omega)
  simpa using this
theorem wrap64_of {a : Int} (h0 : -9223372036854775808 ≤ a) (h1 : a < 9223372036854775808) : wrap64 a = a := by unfold wrap64; omega
/-- Rows of words. -/
def UL (l : List Int) : Prop := ∀ x ∈ l, U x
theorem UL_of_wf {l : List Int} (h : ∀ x ∈ l, (Lit.int .u64 x).wf = true) : UL l := fun x hx => U_of_wf (h x hx)
theorem U_zero : U 0 := ⟨by omega, by omega⟩
theorem U_one : U 1 := ⟨by omega, by omega⟩
theorem U_getD {l : List Int} (h : UL l) (i : Nat) : U (l.getD i 0) := by
  rw [List.getD_eq_getElem?_getD]
  by_cases hi : i < l.length
  · rw [List.getElem?_eq_getElem hi]; exact h _ (List.getElem_mem hi)
  · rw [List.getElem?_eq_none (by omega)]; exact U_zero
theorem U_rd {l : List Int} (h : UL l) (i : Int) : U (rd l i) := U_getD h _
theorem UL_tab (m : Nat) (f : Nat → F) : UL (tab m f) := by
  intro x hx
  unfold tab at hx
  obtain ⟨j, _, rfl⟩ := List.mem_map.1 hx
  exact U_un _
theorem UL_nil : UL [] := fun x hx => by cases hx
theorem rd_nat (l : List Int) (i : Nat) : rd l (i : Int) = l.getD i 0 := by unfold rd; rw [Int.toNat_natCast]
theorem cv_rd (l : List Int) (i : Nat) : cv (rd l (i : Int)) = co l i := by rw [rd_nat]; rfl
theorem rd_tab {m : Nat} {f : Nat → F} {i : Nat} (h : i < m) : rd (tab m f) (i : Int) = un (f i) := by rw [rd_nat, tab_getD m f i h]
theorem nat64_succ {i : Nat} (h : i < 9223372036854775807) : wrap64 ((i : Int) + 1) = ((i + 1 : Nat) : Int) := by unfold wrap64; omega
theorem nat64_pred {i : Nat} (h : i < 9223372036854775807) : wrap64 ((i + 1 : Nat) - 1 : Int) = (i : Int) := by unfold wrap64; omega
/-- A loop that counts up. -/
theorem Ev_loop {α : Type} {r : α} (n : Nat) (g : Nat → Nat → Option α) (last : Ev (fun k => g k n) r) (step : ∀ i, i < n → Ev (fun k => g k (i + 1)) r → Ev (fun k => g k i) r) (i : Nat) (hi : i ≤ n) : Ev (fun k => g k i) r := by
  have key : ∀ d i, i + d = n → Ev (fun k => g k i) r := by
    intro d
    induction d with
    | zero => intro i hi; obtain rfl : i = n := by omega
              exact last
    | succ d ih => intro i hi; exact step i (by omega) (ih (i + 1) (by omega))
  exact key (n - i) i (by omega)
/-- A loop that counts down. -/
theorem Ev_down {α : Type} {r : α} (n : Nat) (g : Nat → Nat → Option α) (last : Ev (fun k => g k 0) r) (step : ∀ i, i < n → Ev (fun k => g k i) r → Ev (fun k => g k (i + 1)) r) : Ev (fun k => g k n) r := by
  have key : ∀ i, i ≤ n → Ev (fun k => g k i) r := by
    intro i
    induction i with
    | zero => intro _; exact last
    | succ i ih => intro hi; exact step i (by omega) (ih (by omega))
  exact key n (Nat.le_refl n)
theorem down_at (i : Nat) : (((i + 1 : Nat) : Int) - 1) = (i : Int) := by omega
theorem down_next {i : Nat} (h : i < 9223372036854775807) : wrap64 ((i : Int) - 1) = (i : Int) - 1 := by unfold wrap64; omega
theorem len64 {n : Nat} (h : n < 9223372036854775807) : wrap64 ((n : Int) - 1) = (n : Int) - 1 := by unfold wrap64; omega
theorem U_nat {n : Nat} (h : n < 18446744073709551616) : U (n : Int) := ⟨Int.natCast_nonneg _, by omega⟩
theorem two_pow_lt {n m : Nat} (h : n ≤ m) : 2 ^ n ≤ 2 ^ m := Nat.pow_le_pow_right (by omega) h
theorem U_two_pow {n : Nat} (h : n ≤ 63) : U ((2 ^ n : Nat) : Int) := U_nat (by have := two_pow_lt h; omega)
theorem i64wrap (a : Int) : IntKind.i64.wrap a = wrap64 a := by rw [IntKind.wrap_i64]; unfold wrap64; rfl
theorem int_two_pow (n : Nat) : ((2 : Int) ^ n) = ((2 ^ n : Nat) : Int) := by simp
theorem shl_i64 {n : Nat} (h : n ≤ 62) : shl .i64 1 (IntKind.u64.wrap (n : Int)) = ((2 ^ n : Nat) : Int) := by
  have hu : IntKind.u64.wrap (n : Int) = (n : Int) := wu64_of ⟨by omega, by omega⟩
  unfold shl
  rw [hu, Int.toNat_natCast, Nat.min_eq_left (by rw [show IntKind.i64.bits = 64 from rfl]; omega), i64wrap, Int.one_mul, int_two_pow]
  have := two_pow_lt (n := n) (m := 62) h
  generalize 2 ^ n = q at *
  rw [wrap64_of (by omega) (by omega)]
theorem shl_u64 {n : Nat} (h : n ≤ 63) : shl .u64 1 (IntKind.u64.wrap (n : Int)) = ((2 ^ n : Nat) : Int) := by
  have hu : IntKind.u64.wrap (n : Int) = (n : Int) := wu64_of ⟨by omega, by omega⟩
  unfold shl
  rw [hu, Int.toNat_natCast, Nat.min_eq_left (by rw [show IntKind.u64.bits = 64 from rfl]; omega), Int.one_mul, int_two_pow]
  have := two_pow_lt (n := n) (m := 63) h
  generalize 2 ^ n = q at *
  exact wu64_of ⟨by omega, by omega⟩
theorem or_i64 {x n : Nat} (hx : x < 2 ^ n) (hn : n ≤ 62) : Go.bits .or .i64 (x : Int) ((2 ^ n : Nat) : Int) = ((x + 2 ^ n : Nat) : Int) := by
  have h1 := two_pow_lt (n := n) (m := 62) hn
  have h2 : 2 ^ n < 2 ^ 63 := by omega
  have hb := (bits_nat .i64 63 (by decide) (fun n h0 h1 => by rw [i64wrap]; exact wrap64_of (by omega) (by omega)) x (2 ^ n) (by omega) h2).2
  have e := Nat.two_pow_add_eq_or_of_lt hx 1
  rw [Nat.mul_one] at e
  rw [hb, Nat.or_comm, ← e, Nat.add_comm]
theorem getD_take {l : List Int} {d i : Nat} (h : i < d) : (l.take d).getD i 0 = l.getD i 0 := by
  rw [List.getD_eq_getElem?_getD, List.getD_eq_getElem?_getD, List.getElem?_take, if_pos h]
theorem getD_drop (l : List Int) (d i : Nat) : (l.drop d).getD i 0 = l.getD (d + i) 0 := by
  rw [List.getD_eq_getElem?_getD, List.getD_eq_getElem?_getD, List.getElem?_drop]
theorem UL_take {l : List Int} (h : UL l) (d : Nat) : UL (l.take d) := fun x hx => h x (List.mem_of_mem_take hx)
theorem UL_drop {l : List Int} (h : UL l) (d : Nat) : UL (l.drop d) := fun x hx => h x (List.mem_of_mem_drop hx)
theorem co_take {l : List Int} {d i : Nat} (h : i < d) : co (l.take d) i = co l i := by unfold co; rw [getD_take h]
theorem co_drop (l : List Int) (d i : Nat) : co (l.drop d) i = co l (d + i) := by unfold co; rw [getD_drop]
theorem UL_tr (m : Nat) (f : Nat → F) : UL (tr m f) := UL_tab _ _
theorem add64 {a b : Nat} (h : a + b < 9223372036854775808) : wrap64 ((a : Int) + (b : Int)) = ((a + b : Nat) : Int) := by unfold wrap64; omega
theorem sub64 {a b : Nat} (h : b ≤ a) (h2 : a < 9223372036854775808) : wrap64 ((a : Int) - (b : Int)) = ((a - b : Nat) : Int) := by unfold wrap64; omega
theorem UL_cons {a : Int} {l : List Int} (h : U a) (hl : UL l) : UL (a :: l) := by
  intro x hx
  rcases List.mem_cons.1 hx with rfl | hx
  · exact h
  · exact hl x hx
theorem co_cons_zero (a : Int) (l : List Int) : co (a :: l) 0 = cv a := rfl
theorem co_cons_succ (a : Int) (l : List Int) (i : Nat) : co (a :: l) (i + 1) = co l i := rfl

/-! ### gold_Of -/
theorem gold_Of_eq {a : Int} (h : U a) : gold_Of.f a = some (un (cv a)) := by
  unfold gold_Of.f
  rw [un_cv]
  have := h.1; have := h.2
  by_cases c : a ≥ 18446744069414584321
  · rw [if_pos c, wu64]; congr 1; omega
  · rw [if_neg c]; congr 1; omega

/-! ### gold_Reduce -/
theorem gold_Reduce_eq {hi lo : Int} (h : U hi) (h2 : U lo) : gold_Reduce.f hi lo = some (un (cv (hi * 18446744073709551616 + lo))) := by
  have e0 := h.1; have e1 := h.2; have e2 := h2.1; have e3 := h2.2
  unfold gold_Reduce.f
  rw [and_low h]
  simp only [wu64]
  have top : hi = 4294967296 * (hi / 4294967296) + hi % 4294967296 := by omega
  generalize hi / 4294967296 = t at *
  generalize hm : hi % 4294967296 = m at *
  have hm0 : 0 ≤ m := by omega
  have hm1 : m < 4294967296 := by omega
  have ht0 : 0 ≤ t := by omega
  have ht1 : t < 4294967296 := by omega
  have e : m * 4294967295 % 18446744073709551616 = m * 4294967295 := by omega
  rw [e]
  by_cases c1 : lo < t
  · rw [if_pos c1]
    have a1 : (lo - t) % 18446744073709551616 = lo - t + 18446744073709551616 := by omega
    rw [a1]
    have a2 : (lo - t + 18446744073709551616 - 4294967295) % 18446744073709551616 = lo - t + 18446744073709551616 - 4294967295 := by omega
    rw [a2]
    by_cases c2 : (lo - t + 18446744073709551616 - 4294967295 + m * 4294967295) % 18446744073709551616 < m * 4294967295
    · have c3 : (lo - t + 18446744073709551616 - 4294967295 + m * 4294967295) % 18446744073709551616 = lo - t - 4294967295 + m * 4294967295 := by omega
      have c4 : (lo - t - 4294967295 + m * 4294967295 + 4294967295) % 18446744073709551616 = lo - t + m * 4294967295 := by omega
      rw [if_pos c2, c3, c4, gold_Of_eq ⟨by omega, by omega⟩]
      simp only [Option.bind_some, Option.some.injEq, un_inj_iff]
      exact cv_of_eq (-(t * 4294967297 + m)) (by omega)
    · have c3 : (lo - t + 18446744073709551616 - 4294967295 + m * 4294967295) % 18446744073709551616 = lo - t + 18446744073709551616 - 4294967295 + m * 4294967295 := by omega
      rw [if_neg c2, c3, gold_Of_eq ⟨by omega, by omega⟩]
      simp only [Option.bind_some, Option.some.injEq, un_inj_iff]
      exact cv_of_eq (-(t * 4294967297 + m) + 1) (by omega)
  · rw [if_neg c1]
    have a1 : (lo - t) % 18446744073709551616 = lo - t := by omega
    rw [a1]
    by_cases c2 : (lo - t + m * 4294967295) % 18446744073709551616 < m * 4294967295
    · have c3 : (lo - t + m * 4294967295) % 18446744073709551616 = lo - t + m * 4294967295 - 18446744073709551616 := by omega
      have c4 : (lo - t + m * 4294967295 - 18446744073709551616 + 4294967295) % 18446744073709551616 = lo - t + m * 4294967295 - 18446744069414584321 := by omega
      rw [if_pos c2, c3, c4, gold_Of_eq ⟨by omega, by omega⟩]
      simp only [Option.bind_some, Option.some.injEq, un_inj_iff]
      exact cv_of_eq (-(t * 4294967297 + m) - 1) (by omega)
    · have c3 : (lo - t + m * 4294967295) % 18446744073709551616 = lo - t + m * 4294967295 := by omega
      rw [if_neg c2, c3, gold_Of_eq ⟨by omega, by omega⟩]
      simp only [Option.bind_some, Option.some.injEq, un_inj_iff]
      exact cv_of_eq (-(t * 4294967297 + m)) (by omega)

/-! ### bits_Mul64 -/
theorem mul64_arith (a b : Int) (ha : U a) (hb : U b) :
    IntKind.u64.wrap ((IntKind.u64.wrap ((IntKind.u64.wrap ((a / 4294967296) * (b / 4294967296))) + ((IntKind.u64.wrap ((IntKind.u64.wrap ((a / 4294967296) * (b % 4294967296))) + ((IntKind.u64.wrap ((a % 4294967296) * (b % 4294967296))) / 4294967296))) / 4294967296))) + ((IntKind.u64.wrap ((Go.bits .and .u64 (IntKind.u64.wrap ((IntKind.u64.wrap ((a / 4294967296) * (b % 4294967296))) + ((IntKind.u64.wrap ((a % 4294967296) * (b % 4294967296))) / 4294967296))) 4294967295) + (IntKind.u64.wrap ((a % 4294967296) * (b / 4294967296))))) / 4294967296)) = a * b / 18446744073709551616 := by
  rw [and_low (U_wrap _)]
  simp only [wu64]
  have a0 := ha.1; have a1 := ha.2; have b0 := hb.1; have b1 := hb.2
  have ea : a = 4294967296 * (a / 4294967296) + a % 4294967296 := by omega
  have eb : b = 4294967296 * (b / 4294967296) + b % 4294967296 := by omega
  have x0 : 0 ≤ a / 4294967296 := by omega
  have x1 : a / 4294967296 ≤ 4294967295 := by omega
  have y0 : 0 ≤ b / 4294967296 := by omega
  have y1 : b / 4294967296 ≤ 4294967295 := by omega
  have u0 : 0 ≤ a % 4294967296 := by omega
  have u1 : a % 4294967296 ≤ 4294967295 := by omega
  have v0 : 0 ≤ b % 4294967296 := by omega
  have v1 : b % 4294967296 ≤ 4294967295 := by omega
  generalize a / 4294967296 = x at *
  generalize b / 4294967296 = y at *
  generalize a % 4294967296 = u at *
  generalize b % 4294967296 = v at *
  have key : ∀ p q : Int, 0 ≤ p → p ≤ 4294967295 → 0 ≤ q → q ≤ 4294967295 → 0 ≤ p * q ∧ p * q ≤ 18446744065119617025 := by
    intro p q p0 p1 q0 q1
    refine ⟨Int.mul_nonneg p0 q0, ?_⟩
    have := Int.mul_le_mul p1 q1 q0 (by omega)
    omega
  have hxy := key x y x0 x1 y0 y1
  have hxv := key x v x0 x1 v0 v1
  have huv := key u v u0 u1 v0 v1
  have huy := key u y u0 u1 y0 y1
  have eab : a * b = 18446744073709551616 * (x * y) + 4294967296 * (x * v) + 4294967296 * (u * y) + u * v := by
    rw [ea, eb]; grind
  rw [eab]
  generalize x * y = xy at *
  generalize x * v = xv at *
  generalize u * v = uv at *
  generalize u * y = uy at *
  clear ea eb eab key
  rw [Int.emod_eq_of_lt hxy.1 (by omega), Int.emod_eq_of_lt hxv.1 (by omega), Int.emod_eq_of_lt huv.1 (by omega), Int.emod_eq_of_lt huy.1 (by omega)]
  rw [Int.emod_eq_of_lt (a := xv + uv / 4294967296) (by omega) (by omega)]
  omega
theorem bits_Mul64_eq {a b : Int} (ha : U a) (hb : U b) : bits_Mul64.f a b = some (a * b / 18446744073709551616, a * b % 18446744073709551616) := by
  unfold bits_Mul64.f
  rw [and_low ha, and_low hb, mul64_arith a b ha hb, wu64]

/-! ### wide_Mul -/
theorem wide_Mul_eq {a b : Int} (ha : U a) (hb : U b) : wide_Mul.f a b = some (a * b / 18446744073709551616, a * b % 18446744073709551616) := by
  unfold wide_Mul.f
  rw [bits_Mul64_eq ha hb]; rfl
theorem U_wide {a b : Int} (ha : U a) (hb : U b) : U (a * b / 18446744073709551616) ∧ U (a * b % 18446744073709551616) := by
  have h0 := Int.mul_nonneg ha.1 hb.1
  have h1 : a * b ≤ 18446744073709551615 * 18446744073709551615 := Int.mul_le_mul (by have := ha.2; omega) (by have := hb.2; omega) hb.1 (by omega)
  generalize a * b = c at *
  exact ⟨⟨by omega, by omega⟩, ⟨by omega, by omega⟩⟩

/-! ### gold_Mul -/
theorem gold_Mul_eq {a b : Int} (ha : U a) (hb : U b) : gold_Mul.f a b = some (un (cv a * cv b)) := by
  unfold gold_Mul.f
  rw [wide_Mul_eq ha hb]
  simp only [Option.bind_some]
  rw [gold_Reduce_eq (U_wide ha hb).1 (U_wide ha hb).2]
  simp only [Option.bind_some, ← cv_mul]
  congr 3
  omega

/-! ### gold_Pow -/
theorem gold_Pow_l0_ev : ∀ (m : Nat) (n : Nat) (x y : F), n < 2 ^ m → n < 18446744073709551616 → Ev (fun k => gold_Pow.l0 k (n : Int) (un x) (un y)) (un (x * y ^ n))
  | 0, n, x, y, h, _ => by
    obtain rfl : n = 0 := by simpa using h
    refine Ev.step (f := fun _ => some (un x)) (fun k => ?_) ?_
    · simp only [gold_Pow.l0]; rw [if_neg (by omega)]
    · have : x * y ^ 0 = x := by grind
      rw [this]; exact Ev.now _
  | m + 1, n, x, y, h, hn => by
    have hm : n / 2 < 2 ^ m := by rw [Nat.pow_succ] at h; omega
    have e2 : ((n : Int) / 2) = ((n / 2 : Nat) : Int) := by omega
    by_cases h0 : n = 0
    · subst h0
      refine Ev.step (f := fun _ => some (un x)) (fun k => ?_) ?_
      · simp only [gold_Pow.l0]; rw [if_neg (by omega)]
      · have : x * y ^ 0 = x := by grind
        rw [this]; exact Ev.now _
    · have hU : U (n : Int) := ⟨by omega, by omega⟩
      by_cases h1 : n % 2 = 1
      · refine Ev.step (f := fun k => gold_Pow.l0 k ((n / 2 : Nat) : Int) (un (x * y)) (un (y * y))) (fun k => ?_) ?_
        · simp only [gold_Pow.l0]
          rw [if_pos (by omega), and_one hU, if_pos (by omega), gold_Mul_eq (U_un _) (U_un _), gold_Mul_eq (U_un _) (U_un _), e2]
          simp only [Option.bind_some, cv_un]
        · have ih := gold_Pow_l0_ev m (n / 2) (x * y) (y * y) hm (by omega)
          have e : x * y * (y * y) ^ (n / 2) = x * y ^ n := by
            have : n = 2 * (n / 2) + 1 := by omega
            rw [show y * y = y ^ 2 by grind, ← pow_mul']
            rw [show x * y * y ^ (2 * (n / 2)) = x * y ^ (2 * (n / 2) + 1) by grind, ← this]
          rw [e] at ih; exact ih
      · refine Ev.step (f := fun k => gold_Pow.l0 k ((n / 2 : Nat) : Int) (un x) (un (y * y))) (fun k => ?_) ?_
        · simp only [gold_Pow.l0]
          rw [if_pos (by omega), and_one hU, if_neg (by omega), gold_Mul_eq (U_un _) (U_un _), e2]
          simp only [Option.bind_some, cv_un]
        · have ih := gold_Pow_l0_ev m (n / 2) x (y * y) hm (by omega)
          have e : x * (y * y) ^ (n / 2) = x * y ^ n := by
            have : n = 2 * (n / 2) := by omega
            rw [show y * y = y ^ 2 by grind, ← pow_mul', ← this]
          rw [e] at ih; exact ih
theorem gold_Pow_ev {a n : Int} (ha : U a) (hn : U n) : Ev (fun k => gold_Pow.f k a n) (un (cv a ^ n.toNat)) := by
  have h := gold_Pow_l0_ev 64 n.toNat 1 (cv a) (by have := hn.2; omega) (by have := hn.2; omega)
  rw [un_one, Int.toNat_of_nonneg hn.1] at h
  have e : 1 * cv a ^ n.toNat = cv a ^ n.toNat := by grind
  rw [e] at h
  refine Ev.congr (fun k => ?_) h
  unfold gold_Pow.f
  rw [gold_Of_eq ha]; rfl

/-! ### gold_Neg -/
theorem gold_Neg_eq {a : Int} (h : U a) : gold_Neg.f a = some (un (- cv a)) := by
  unfold gold_Neg.f
  rw [gold_Of_eq h]
  simp only [Option.bind_some, un_neg, un_cv]
  by_cases c : a % 18446744069414584321 = 0
  · rw [if_pos c, c]; rfl
  · rw [if_neg c, wu64]; congr 1; omega

/-! ### abacistlaw02_awake -/
theorem abacistlaw02_awake_ev : Ev (fun k => abacistlaw02_awake.f k) true := by
  unfold abacistlaw02_awake.f
  rw [gold_Mul_eq ⟨by omega, by omega⟩ ⟨by omega, by omega⟩, gold_Neg_eq ⟨by omega, by omega⟩]
  have h1 : un (cv 4294967296 * cv 4294967296) = 4294967295 := by rw [← cv_mul, un_cv]; rfl
  have h2 : un (- cv 1) = 18446744069414584320 := by rw [un_neg, un_cv]; rfl
  simp only [Option.bind_some, h1, h2, if_true]
  refine Ev.bind (f := fun _ t => some (t == 81)) (gold_Pow_ev ⟨by omega, by omega⟩ ⟨by omega, by omega⟩) ?_
  rw [← cv_nat_pow, un_cv]
  exact Ev.now _

/-! ### abacistref01_bit -/
def HI (V : Nat) : Int := ((V / 18446744073709551616 : Nat) : Int)
def LO (V : Nat) : Int := ((V % 18446744073709551616 : Nat) : Int)
theorem shr_nat (x n : Nat) (h : n ≤ 64) : shr .u64 (x : Int) (IntKind.u64.wrap (n : Int)) = ((x / 2 ^ n : Nat) : Int) := by
  have hu : IntKind.u64.wrap (n : Int) = (n : Int) := wu64_of ⟨by omega, by omega⟩
  unfold shr
  rw [hu, Int.toNat_natCast, Nat.min_eq_left (by rw [show IntKind.u64.bits = 64 from rfl]; omega), int_two_pow, Int.natCast_ediv]
theorem low_bit (V : Nat) {i : Nat} (h : i < 64) : V % 18446744073709551616 / 2 ^ i % 2 = V / 2 ^ i % 2 := by
  have e : 18446744073709551616 = 2 ^ i * (2 * 2 ^ (63 - i)) := by
    rw [← Nat.pow_succ', ← Nat.pow_add, show i + (63 - i).succ = 64 by omega]
  have hp := Nat.two_pow_pos i
  have hq : V = 2 ^ i * (2 * 2 ^ (63 - i)) * (V / 18446744073709551616) + V % 18446744073709551616 := by
    rw [← e]; exact (Nat.div_add_mod _ _).symm
  have h2 : V / 2 ^ i = (2 * 2 ^ (63 - i)) * (V / 18446744073709551616) + V % 18446744073709551616 / 2 ^ i := by
    have h3 : V / 2 ^ i = (2 ^ i * (2 * 2 ^ (63 - i)) * (V / 18446744073709551616) + V % 18446744073709551616) / 2 ^ i := congrArg (· / 2 ^ i) hq
    rw [h3, Nat.mul_assoc, Nat.mul_add_div hp]
  rw [h2, Nat.mul_assoc]
  omega
theorem abacistref01_bit_eq (V : Nat) {i : Nat} (h : i < 128) : abacistref01_bit.f (HI V) (LO V) (i : Int) = some ((V / 2 ^ i % 2 : Nat) : Int) := by
  unfold abacistref01_bit.f HI LO
  by_cases c : i < 64
  · rw [if_neg (by omega), if_pos (U_wrap _).1, shr_nat _ _ (by omega), Int.tmod_eq_emod_of_nonneg (Int.natCast_nonneg _)]
    congr 1
    rw [← low_bit V c, Int.natCast_emod]; rfl
  · rw [if_pos (by omega)]
    have e : wrap64 ((i : Int) - 64) = ((i - 64 : Nat) : Int) := by rw [wrap64_of (by omega) (by omega)]; omega
    rw [e, if_pos (U_wrap _).1, shr_nat _ _ (by omega), Int.tmod_eq_emod_of_nonneg (Int.natCast_nonneg _)]
    congr 1
    have e2 : V / 18446744073709551616 / 2 ^ (i - 64) = V / 2 ^ i := by
      rw [Nat.div_div_eq_div_mul, show 18446744073709551616 = 2 ^ 64 from rfl, ← Nat.pow_add, show 64 + (i - 64) = i by omega]
    rw [e2, Int.natCast_emod]; rfl

/-! ### abacistref01_set -/
theorem abacistref01_set_eq {V i : Nat} (h : i < 128) (hV : V < 2 ^ i) : abacistref01_set.f (HI V) (LO V) (i : Int) = some (HI (V + 2 ^ i), LO (V + 2 ^ i)) := by
  unfold abacistref01_set.f HI LO
  by_cases c : i < 64
  · have h2 := two_pow_lt (n := i) (m := 63) (by omega)
    have e1 : V / 18446744073709551616 = 0 := Nat.div_eq_of_lt (by omega)
    have e2 : V % 18446744073709551616 = V := Nat.mod_eq_of_lt (by omega)
    have e3 : (V + 2 ^ i) / 18446744073709551616 = 0 := Nat.div_eq_of_lt (by omega)
    have e4 : (V + 2 ^ i) % 18446744073709551616 = V + 2 ^ i := Nat.mod_eq_of_lt (by omega)
    rw [if_neg (by omega), if_pos (U_wrap _).1, shl_u64 (by omega), e1, e2, e3, e4, ← Int.natCast_add, wu64_of (U_nat (by omega))]
  · have e : wrap64 ((i : Int) - 64) = ((i - 64 : Nat) : Int) := by rw [wrap64_of (by omega) (by omega)]; omega
    have ei : 2 ^ i = 18446744073709551616 * 2 ^ (i - 64) := by
      rw [show 18446744073709551616 = 2 ^ 64 from rfl, ← Nat.pow_add, show 64 + (i - 64) = i by omega]
    have h2 := two_pow_lt (n := i - 64) (m := 63) (by omega)
    rw [if_pos (by omega), e, if_pos (U_wrap _).1, shl_u64 (by omega), ei]
    rw [ei] at hV
    generalize 2 ^ (i - 64) = p at *
    have e1 : (V + 18446744073709551616 * p) / 18446744073709551616 = V / 18446744073709551616 + p := by omega
    have e2 : (V + 18446744073709551616 * p) % 18446744073709551616 = V % 18446744073709551616 := by omega
    rw [e1, e2, ← Int.natCast_add, wu64_of (U_nat (by omega))]
theorem abacistref01_set_any (a b : Int) {i : Nat} (h : i < 128) : ∃ x y, abacistref01_set.f a b (i : Int) = some (x, y) := by
  unfold abacistref01_set.f
  by_cases c : (i : Int) ≥ 64
  · rw [if_pos c, if_pos (U_wrap _).1]; exact ⟨_, _, rfl⟩
  · rw [if_neg c, if_pos (U_wrap _).1]; exact ⟨_, _, rfl⟩

/-! ### abacistref01_Shl -/
theorem mod_two_pow_succ (V i : Nat) : V % 2 ^ (i + 1) = V % 2 ^ i + 2 ^ i * (V / 2 ^ i % 2) := by
  rw [Nat.pow_succ, Nat.mod_mul]
theorem bit_cases (V i : Nat) : V / 2 ^ i % 2 = 0 ∨ V / 2 ^ i % 2 = 1 := by omega
theorem abacistref01_Shl_ev (V : Nat) : Ev (fun k => abacistref01_Shl.f k (HI V) (LO V) 1) (HI (2 * (V % 2 ^ 127)), LO (2 * (V % 2 ^ 127))) := by
  refine Ev.congr (f := fun k => abacistref01_Shl.j0 k 1 (HI V) (LO V) 0 0) (fun k => by unfold abacistref01_Shl.f; rw [if_neg (by omega)]) ?_
  refine Ev.step (fun k => abacistref01_Shl.j0.eq_2 ..) ?_
  have e0 : (0 : Int) = HI (2 * (V % 2 ^ 0)) ∧ (0 : Int) = LO (2 * (V % 2 ^ 0)) := by
    rw [Nat.pow_zero, Nat.mod_one]; exact ⟨rfl, rfl⟩
  have key : Ev (fun k => abacistref01_Shl.l0 k 1 ((0 : Nat) : Int) (HI V) (LO V) (HI (2 * (V % 2 ^ 0))) (LO (2 * (V % 2 ^ 0)))) (HI (2 * (V % 2 ^ 127)), LO (2 * (V % 2 ^ 127))) := by
    refine Ev_loop 127 (fun k i => abacistref01_Shl.l0 k 1 (i : Int) (HI V) (LO V) (HI (2 * (V % 2 ^ i))) (LO (2 * (V % 2 ^ i)))) ?_ (fun i hi ih => ?_) 0 (Nat.zero_le _)
    · refine Ev.step (fun k => abacistref01_Shl.l0.eq_2 ..) ?_
      simp -implicitDefEqProofs only [show ((127 : Nat) : Int) < 128 by omega, if_true, show wrap64 (128 - ((127 : Nat) : Int)) = 1 by unfold wrap64; omega, decide_eq_false (show ¬ ((1 : Int) < 1) by omega)]
      refine Ev.step (fun k => abacistref01_Shl.j2.eq_2 ..) ?_
      exact Ev.now _
    · refine Ev.step (fun k => abacistref01_Shl.l0.eq_2 ..) ?_
      have c1 : (i : Int) < 128 := by omega
      have c2 : (1 : Int) < wrap64 (128 - (i : Int)) := by rw [wrap64_of (by omega) (by omega)]; omega
      simp -implicitDefEqProofs only [c1, if_true, decide_eq_true c2]
      refine Ev.step (fun k => abacistref01_Shl.j2.eq_2 ..) ?_
      have hlt : V % 2 ^ i < 2 ^ i := Nat.mod_lt _ (Nat.two_pow_pos i)
      rw [mod_two_pow_succ V i] at ih
      rw [abacistref01_bit_eq V (by omega), nat64_succ (show i < 9223372036854775807 by omega)]
      rcases bit_cases V i with hb | hb
      · rw [hb] at ih ⊢
        simp -implicitDefEqProofs only [if_true, Option.bind_some, show ¬ (((0 : Nat) : Int) = 1) by omega, if_false]
        rw [Nat.mul_zero, Nat.add_zero] at ih
        exact ih
      · rw [hb] at ih ⊢
        rw [abacistref01_set_eq (by omega) (by rw [Nat.pow_succ]; omega)]
        simp -implicitDefEqProofs only [if_true, Option.bind_some, show (((1 : Nat) : Int) = 1) from rfl]
        have e : 2 * (V % 2 ^ i + 2 ^ i * 1) = 2 * (V % 2 ^ i) + 2 ^ (i + 1) := by rw [Nat.pow_succ]; omega
        rw [e] at ih
        exact ih
  rw [← e0.1, ← e0.2] at key
  exact key

/-! ### abacistref01_Less -/
theorem abacistref01_Less_eq (A B : Nat) : abacistref01_Less.f (HI A) (LO A) (HI B) (LO B) = some (decide (A < B)) := by
  unfold abacistref01_Less.f HI LO
  by_cases c : ((A / 18446744073709551616 : Nat) : Int) < ((B / 18446744073709551616 : Nat) : Int)
  · rw [if_pos c, decide_eq_true (by omega)]
  · rw [if_neg c]
    by_cases d : ((A / 18446744073709551616 : Nat) : Int) = ((B / 18446744073709551616 : Nat) : Int)
    · rw [if_pos d]; congr 1
      by_cases e : A < B
      · rw [decide_eq_true e, decide_eq_true (by omega)]
      · rw [decide_eq_false e, decide_eq_false (by omega)]
    · rw [if_neg d, decide_eq_false (by omega)]

/-! ### abacistref01_Add -/
theorem abacistref01_Add_loop (A B : Nat) (hA : A < 2 ^ 128) (hB : B < 2 ^ 128) : ∀ (d i s c : Nat), i + d = 128 → s < 2 ^ i → c ≤ 1 → s + c * 2 ^ i = A % 2 ^ i + B % 2 ^ i →
    ∃ s' c', s' < 2 ^ 128 ∧ c' ≤ 1 ∧ s' + c' * 2 ^ 128 = A + B ∧ Ev (fun k => abacistref01_Add.l0 k (c : Int) (i : Int) (HI A) (LO A) (HI B) (LO B) (HI s) (LO s)) (HI s', LO s', (c' : Int)) := by
  intro d
  induction d with
  | zero =>
    intro i s c hi hs hc h
    obtain rfl : i = 128 := by omega
    rw [Nat.mod_eq_of_lt hA, Nat.mod_eq_of_lt hB] at h
    refine ⟨s, c, hs, hc, h, ?_⟩
    refine Ev.step (fun k => abacistref01_Add.l0.eq_2 ..) ?_
    simp -implicitDefEqProofs only [show ¬ (((128 : Nat) : Int) < 128) by omega, if_false]
    exact Ev.now _
  | succ d ih =>
    intro i s c hi hs hc h
    have hn : ∀ n : Nat, n ≤ 3 → IntKind.u64.wrap ((n : Int)) = (n : Int) := fun n hn => wu64_of (U_nat (by omega))
    have b1 := bit_cases A i
    have b2 := bit_cases B i
    have e1 := mod_two_pow_succ A i
    have e2 := mod_two_pow_succ B i
    generalize hx : A / 2 ^ i % 2 = x at *
    generalize hy : B / 2 ^ i % 2 = y at *
    have hx1 : x ≤ 1 := by omega
    have hy1 : y ≤ 1 := by omega
    have hp := Nat.two_pow_pos i
    have hsum : s + 2 ^ i * ((x + y + c) % 2) + (x + y + c) / 2 * 2 ^ (i + 1) = A % 2 ^ (i + 1) + B % 2 ^ (i + 1) := by
      rw [e1, e2, Nat.pow_succ]
      have hm : (x + y + c) = 2 * ((x + y + c) / 2) + (x + y + c) % 2 := (Nat.div_add_mod _ _).symm
      have : A % 2 ^ i + 2 ^ i * x + (B % 2 ^ i + 2 ^ i * y) = s + 2 ^ i * (x + y + c) := by
        have : A % 2 ^ i + B % 2 ^ i = s + c * 2 ^ i := h.symm
        grind
      rw [this]
      generalize (x + y + c) / 2 = u at *
      generalize (x + y + c) % 2 = v at *
      rw [hm]; grind
    obtain ⟨s', c', p1, p2, p3, p4⟩ := ih (i + 1) (s + 2 ^ i * ((x + y + c) % 2)) ((x + y + c) / 2) (by omega)
      (by rw [Nat.pow_succ]
          have : (x + y + c) % 2 ≤ 1 := by omega
          have := Nat.mul_le_mul_left (2 ^ i) this
          omega) (by omega) hsum
    refine ⟨s', c', p1, p2, p3, ?_⟩
    refine Ev.step (fun k => abacistref01_Add.l0.eq_2 ..) ?_
    have hbx := abacistref01_bit_eq A (i := i) (by omega)
    have hby := abacistref01_bit_eq B (i := i) (by omega)
    rw [hx] at hbx
    rw [hy] at hby
    have ew : IntKind.u64.wrap (IntKind.u64.wrap ((x : Int) + (y : Int)) + (c : Int)) = ((x + y + c : Nat) : Int) := by
      rw [← Int.natCast_add, hn _ (by omega), ← Int.natCast_add, hn _ (by omega)]
    have et : Int.tmod ((x + y + c : Nat) : Int) 2 = (((x + y + c) % 2 : Nat) : Int) := by rw [Int.tmod_eq_emod_of_nonneg (by omega)]; omega
    have ed : IntKind.u64.wrap (Int.tdiv ((x + y + c : Nat) : Int) 2) = (((x + y + c) / 2 : Nat) : Int) := by
      rw [Int.tdiv_eq_ediv_of_nonneg (by omega)]
      have : ((x + y + c : Nat) : Int) / 2 = (((x + y + c) / 2 : Nat) : Int) := by omega
      rw [this, hn _ (by omega)]
    simp -implicitDefEqProofs only [show (i : Int) < 128 by omega, if_true, hbx, hby, Option.bind_some, ew, et, ed, nat64_succ (show i < 9223372036854775807 by omega)]
    have hv : (x + y + c) % 2 = 0 ∨ (x + y + c) % 2 = 1 := by omega
    generalize (x + y + c) % 2 = v at *
    rcases hv with rfl | rfl
    · rw [Nat.mul_zero, Nat.add_zero] at p4
      simp -implicitDefEqProofs only [show ¬ (((0 : Nat) : Int) = 1) by omega, if_false]
      exact p4
    · rw [Nat.mul_one] at p4
      simp -implicitDefEqProofs only [show (((1 : Nat) : Int) = 1) from rfl, if_true, abacistref01_set_eq (show i < 128 by omega) hs, Option.bind_some]
      exact p4
theorem abacistref01_Add_ev {A B : Nat} (hA : A < 2 ^ 128) (hB : B < 2 ^ 128) : ∃ s' c', s' < 2 ^ 128 ∧ c' ≤ 1 ∧ s' + c' * 2 ^ 128 = A + B ∧ Ev (fun k => abacistref01_Add.f k (HI A) (LO A) (HI B) (LO B)) (HI s', LO s', (c' : Int)) := by
  have := abacistref01_Add_loop A B hA hB 128 0 0 0 (by omega) (by decide) (by omega) (by rw [Nat.pow_zero, Nat.mod_one, Nat.mod_one])
  exact this

/-! ### abacistref01_Sub -/
theorem xor_ones {x : Nat} (h : x < 18446744073709551616) : Go.bits .xor .u64 (x : Int) 18446744073709551615 = ((18446744073709551615 - x : Nat) : Int) := by
  have hb : (BitVec.ofNat 64 x ^^^ BitVec.ofNat 64 18446744073709551615).toNat = 18446744073709551615 - x := by
    have e : BitVec.ofNat 64 18446744073709551615 = BitVec.allOnes 64 := by decide
    rw [e, BitVec.xor_allOnes, BitVec.toNat_not, BitVec.toNat_ofNat, Nat.mod_eq_of_lt h]
  show IntKind.u64.wrap (((BitVec.ofInt 64 ((x : Nat) : Int) ^^^ BitVec.ofInt 64 ((18446744073709551615 : Nat) : Int)).toNat : Nat) : Int) = _
  rw [BitVec.ofInt_natCast, BitVec.ofInt_natCast, hb, wu64_of (U_nat (by omega))]
theorem abacistref01_Sub_ev {A B : Nat} (hA : A < 2 ^ 128) (hB : B ≤ A) : ∃ b, Ev (fun k => abacistref01_Sub.f k (HI A) (LO A) (HI B) (LO B)) (HI (A - B), LO (A - B), b) := by
  have hp : (2 : Nat) ^ 128 = 340282366920938463463374607431768211456 := rfl
  have hc : 340282366920938463463374607431768211455 - B < 2 ^ 128 := by omega
  have e1 : Go.bits .xor .u64 (HI B) 18446744073709551615 = HI (340282366920938463463374607431768211455 - B) := by
    unfold HI; rw [xor_ones (by omega)]; congr 1; omega
  have e2 : Go.bits .xor .u64 (LO B) 18446744073709551615 = LO (340282366920938463463374607431768211455 - B) := by
    unfold LO; rw [xor_ones (by omega)]; congr 1; omega
  obtain ⟨s1, c1, h1, h2, h3, h4⟩ := abacistref01_Add_ev hA hc
  obtain ⟨s2, c2, k1, k2, k3, k4⟩ := abacistref01_Add_ev h1 (show 1 < 2 ^ 128 by decide)
  have hs : s2 = A - B := by omega
  subst hs
  unfold abacistref01_Sub.f
  rw [e1, e2]
  by_cases c : A < B
  · refine ⟨1, Ev.bind h4 (Ev.bind k4 ?_)⟩
    rw [abacistref01_Less_eq, decide_eq_true c]
    simp -implicitDefEqProofs only [Option.bind_some, if_true]
    exact Ev.now _
  · refine ⟨0, Ev.bind h4 (Ev.bind k4 ?_)⟩
    rw [abacistref01_Less_eq, decide_eq_false c]
    simp -implicitDefEqProofs only [Option.bind_some, show ¬ (false = true) by decide, if_false]
    exact Ev.now _

/-! ### abacistref01_Rem -/
theorem rem_next (V i m : Nat) (hm : 0 < m) : (V / 2 ^ i) % m = if 2 * (V / 2 ^ (i + 1) % m) + V / 2 ^ i % 2 < m then 2 * (V / 2 ^ (i + 1) % m) + V / 2 ^ i % 2 else 2 * (V / 2 ^ (i + 1) % m) + V / 2 ^ i % 2 - m := by
  have e : V / 2 ^ (i + 1) = V / 2 ^ i / 2 := by rw [Nat.pow_succ, Nat.div_div_eq_div_mul]
  rw [e]
  generalize V / 2 ^ i = X
  have h1 : X = 2 * (X / 2) + X % 2 := (Nat.div_add_mod X 2).symm
  have h2 : X / 2 = m * (X / 2 / m) + X / 2 % m := (Nat.div_add_mod (X / 2) m).symm
  have h3 := Nat.mod_lt (X / 2) hm
  have h4 := Nat.mod_lt X (show 0 < 2 by omega)
  generalize X / 2 % m = r at *
  generalize X % 2 = b at *
  generalize X / 2 / m = q at *
  rw [h2] at h1
  have h5 : X = m * (2 * q) + (2 * r + b) := by rw [h1]; grind
  rw [h5, Nat.mul_add_mod]
  split
  · rename_i h; exact Nat.mod_eq_of_lt h
  · rename_i h; rw [Nat.mod_eq_sub_mod (by omega), Nat.mod_eq_of_lt (by omega)]
theorem abacistref01_Rem_ev {V m : Nat} (hV : V < 2 ^ 128) (hm : 0 < m) (hm2 : m < 18446744073709551616) : ∃ x y, Ev (fun k => abacistref01_Rem.f k (HI V) (LO V) (m : Int)) (x, y, ((V % m : Nat) : Int)) := by
  unfold abacistref01_Rem.f
  have key : ∀ i : Nat, i ≤ 128 → ∀ q0 q1 : Int, ∃ x y, Ev (fun k => abacistref01_Rem.l0 k (m : Int) ((i : Int) - 1) (HI V) (LO V) q0 q1 (HI (V / 2 ^ i % m)) (LO (V / 2 ^ i % m))) (x, y, ((V % m : Nat) : Int)) := by
    intro i
    induction i with
    | zero =>
      intro _ q0 q1
      refine ⟨q0, q1, ?_⟩
      refine Ev.step (fun k => abacistref01_Rem.l0.eq_2 ..) ?_
      simp -implicitDefEqProofs only [show ¬ (((0 : Nat) : Int) - 1 ≥ 0) by omega, if_false]
      have e : LO (V / 2 ^ 0 % m) = ((V % m : Nat) : Int) := by
        rw [Nat.pow_zero, Nat.div_one]
        have := Nat.mod_lt V hm
        unfold LO; rw [Nat.mod_eq_of_lt (by omega)]
      rw [e]; exact Ev.now _
    | succ i ih =>
      intro hi q0 q1
      have hr := Nat.mod_lt (V / 2 ^ (i + 1)) hm
      have hnext := rem_next V i m hm
      have hb := bit_cases V i
      have hbit := abacistref01_bit_eq V (i := i) (by omega)
      generalize hR : V / 2 ^ (i + 1) % m = r at *
      generalize hB : V / 2 ^ i % 2 = b at *
      have hp : (2 : Nat) ^ 127 = 170141183460469231731687303715884105728 := rfl
      have e1 : r % 2 ^ 127 = r := Nat.mod_eq_of_lt (by omega)
      have hshl := abacistref01_Shl_ev r
      rw [e1] at hshl
      have e2 : HI (2 * r) = HI (2 * r + b) := by unfold HI; congr 1; omega
      have e3 : IntKind.u64.wrap (LO (2 * r) + (b : Int)) = LO (2 * r + b) := by
        unfold LO
        rw [← Int.natCast_add, wu64_of (U_nat (by omega))]; congr 1; omega
      have e4 : (0 : Int) = HI m := by unfold HI; rw [Nat.div_eq_of_lt hm2]; rfl
      have e5 : (m : Int) = LO m := by unfold LO; rw [Nat.mod_eq_of_lt hm2]
      have hless := abacistref01_Less_eq (2 * r + b) m
      rw [← e4, ← e5] at hless
      by_cases c : 2 * r + b < m
      · rw [if_pos c] at hnext
        obtain ⟨x, y, h⟩ := ih (by omega) q0 q1
        rw [hnext] at h
        refine ⟨x, y, ?_⟩
        refine Ev.step (fun k => abacistref01_Rem.l0.eq_2 ..) ?_
        simp -implicitDefEqProofs only [down_at, show (i : Int) ≥ 0 by omega, if_true]
        refine Ev.bind hshl ?_
        simp -implicitDefEqProofs only [hbit, Option.bind_some, e2, e3, hless, decide_eq_true c, if_true, down_next (show i < 9223372036854775807 by omega)]
        exact h
      · rw [if_neg c] at hnext
        obtain ⟨q2, q3, hq⟩ := abacistref01_set_any q0 q1 (i := i) (by omega)
        obtain ⟨x, y, h⟩ := ih (by omega) q2 q3
        rw [hnext] at h
        obtain ⟨bo, hsub⟩ := abacistref01_Sub_ev (A := 2 * r + b) (B := m) (by omega) (by omega)
        rw [← e4, ← e5] at hsub
        refine ⟨x, y, ?_⟩
        refine Ev.step (fun k => abacistref01_Rem.l0.eq_2 ..) ?_
        simp -implicitDefEqProofs only [down_at, show (i : Int) ≥ 0 by omega, if_true]
        refine Ev.bind hshl ?_
        simp -implicitDefEqProofs only [hbit, Option.bind_some, e2, e3, hless, decide_eq_false c, show ¬ (false = true) by decide, if_false, down_next (show i < 9223372036854775807 by omega)]
        refine Ev.bind hsub ?_
        simp -implicitDefEqProofs only [hq, Option.bind_some]
        exact h
  obtain ⟨x, y, h⟩ := key 128 (by omega) 0 0
  rw [Nat.div_eq_of_lt hV, Nat.zero_mod] at h
  exact ⟨x, y, h⟩

/-! ### abacistref02_Reduce -/
theorem abacistref02_Reduce_ev {hi lo : Int} (h : U hi) (h2 : U lo) : Ev (fun k => abacistref02_Reduce.f k hi lo) (un (cv (hi * 18446744073709551616 + lo))) := by
  have a1 := h.1; have a2 := h.2; have b1 := h2.1; have b2 := h2.2
  obtain ⟨x, rfl⟩ := Int.eq_ofNat_of_zero_le a1
  obtain ⟨y, rfl⟩ := Int.eq_ofNat_of_zero_le b1
  have hp : (2 : Nat) ^ 128 = 340282366920938463463374607431768211456 := rfl
  have e1 : HI (x * 18446744073709551616 + y) = (x : Int) := by unfold HI; congr 1; omega
  have e2 : LO (x * 18446744073709551616 + y) = (y : Int) := by unfold LO; congr 1; omega
  obtain ⟨q0, q1, hr⟩ := abacistref01_Rem_ev (V := x * 18446744073709551616 + y) (m := 18446744069414584321) (by omega) (by omega) (by omega)
  rw [e1, e2] at hr
  unfold abacistref02_Reduce.f
  refine Ev.bind hr ?_
  rw [un_cv]
  have e3 : (((x * 18446744073709551616 + y) % 18446744069414584321 : Nat) : Int) = ((x : Int) * 18446744073709551616 + (y : Int)) % 18446744069414584321 := by omega
  rw [← e3]
  exact Ev.now _

end Go.Proofs.Ytalfhpghmoikoaa.BGoldReduces
