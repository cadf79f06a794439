/- What each function of the law ChirpRuns answers, in the field's own words: plain contracts over the printed functions. -/
import Derived.Test.YtnmjomcpkckihaaDoorPChirpRunsx0
import Derived.Test.YtnmjomcpkckihaaDoorPChirpRunsx1
import Derived.Test.YtnmjomcpkckihaaDoorPChirpRunsx2
import Derived.Test.YtnmjomcpkckihaaDoorPChirpRunsx3
import Derived.Test.YtnmjomcpkckihaaDoorPChirpRunsx4
import Derived.Test.YtnmjomcpkckihaaDoorPChirpRunsx5
import Derived.Test.YtnmjomcpkckihaaDoorPChirpRunsx6
import Derived.Test.YtnmjomcpkckihaaDoorPChirpRunsx7
import Derived.Test.YtnmjomcpkckihaaDoorPChirpRunsx8
import Derived.Test.YtnmjomcpkckihaaDoorPChirpRunsx9
import Derived.Test.YtnmjomcpkckihaaDoorPChirpRunsx10
import Derived.Test.YtnmjomcpkckihaaDoorMChirpRuns
namespace Go.Proofs.YtnmjomcpkckihaaDoor.BChirpRuns
set_option linter.unusedVariables false
set_option linter.unusedSimpArgs false
open Go Go.RowKit Go.Proofs.YtnmjomcpkckihaaDoor.M Go.Proofs.YtnmjomcpkckihaaDoor.PChirpRuns Go.Proofs.YtnmjomcpkckihaaDoorW.PrintWords Go.Proofs.YtnmjomcpkckihaaDoorW.PrintLast Go.Proofs.YtnmjomcpkckihaaDoorW.PrintMore
def U (a : Int) : Prop := 0 ≤ a ∧ a < 18446744073709551616
theorem U_un (x : F) : U (un x) := ⟨un_lo x, by have := un_hi x; omega⟩
theorem U_of_wf {a : Int} (h : (Lit.int .u64 a).wf = true) : U a := by
  simp [Lit.wf, IntKind.min, IntKind.max, IntKind.signed, IntKind.bits] at h
  exact ⟨by omega, by omega⟩
theorem i64_of_wf {a : Int} (h : (Lit.int .i64 a).wf = true) : -9223372036854775808 ≤ a ∧ a ≤ 9223372036854775807 := by
  simp [Lit.wf, IntKind.min, IntKind.max, IntKind.signed, IntKind.bits] at h
  exact ⟨by omega, by omega⟩
theorem wu64 (a : Int) : IntKind.u64.wrap a = a % 18446744073709551616 := by simp [IntKind.wrap, IntKind.bits, IntKind.signed]
theorem wu64_of {a : Int} (h : U a) : IntKind.u64.wrap a = a := by rw [wu64]; have := h.1; have := h.2; omega
theorem U_wrap (a : Int) : U (IntKind.u64.wrap a) := by rw [wu64]; exact ⟨by omega, by omega⟩
theorem and_low {a : Int} (h : U a) : Go.bits .and .u64 a 4294967295 = a % 4294967296 := by
  have := bits_mask .u64 64 (by decide) (fun n h0 h1 => by rw [wu64]; omega) 32 (by decide) a h.1 (by have := h.2; omega)
  simpa using this
theorem and_one {a : Int} (h : U a) : Go.bits .and .u64 a 1 = a % 2 := by
  have := bits_mask .u64 64 (by decide) (fun n h0 h1 => by rw [wu64]; omega) 1 (by decide) a h.1 (by have := h.2; omega)
  simpa using this
theorem wrap64_of {a : Int} (h0 : -9223372036854775808 ≤ a) (h1 : a < 9223372036854775808) : wrap64 a = a := by unfold wrap64; omega
/-- Rows of words. -/
def UL (l : List Int) : Prop := ∀ x ∈ l, U x
theorem UL_of_wf {l : List Int} (h : ∀ x ∈ l, (Lit.int .u64 x).wf = true) : UL l := fun x hx => U_of_wf (h x hx)
theorem U_zero : U 0 := ⟨by omega, by omega⟩
theorem U_one : U 1 := ⟨by omega, by omega⟩
theorem U_getD {l : List Int} (h : UL l) (i : Nat) : U (l.getD i 0) := by
  rw [List.getD_eq_getElem?_getD]
  by_cases hi : i < l.length
  · rw [List.getElem?_eq_getElem hi]; exact h _ (List.getElem_mem hi)
  · rw [List.getElem?_eq_none (by omega)]; exact U_zero
theorem U_rd {l : List Int} (h : UL l) (i : Int) : U (rd l i) := U_getD h _
theorem UL_tab (m : Nat) (f : Nat → F) : UL (tab m f) := by
  intro x hx
  unfold tab at hx
  obtain ⟨j, _, rfl⟩ := List.mem_map.1 hx
  exact U_un _
theorem UL_nil : UL [] := fun x hx => by cases hx
theorem rd_nat (l : List Int) (i : Nat) : rd l (i : Int) = l.getD i 0 := by unfold rd; rw [Int.toNat_natCast]
theorem cv_rd (l : List Int) (i : Nat) : cv (rd l (i : Int)) = co l i := by rw [rd_nat]; rfl
theorem rd_tab {m : Nat} {f : Nat → F} {i : Nat} (h : i < m) : rd (tab m f) (i : Int) = un (f i) := by rw [rd_nat, tab_getD m f i h]
theorem nat64_succ {i : Nat} (h : i < 9223372036854775807) : wrap64 ((i : Int) + 1) = ((i + 1 : Nat) : Int) := by unfold wrap64; omega
/-- A loop that counts up. -/
theorem Ev_loop {α : Type} {r : α} (n : Nat) (g : Nat → Nat → Option α) (last : Ev (fun k => g k n) r) (step : ∀ i, i < n → Ev (fun k => g k (i + 1)) r → Ev (fun k => g k i) r) (i : Nat) (hi : i ≤ n) : Ev (fun k => g k i) r := by
  have key : ∀ d i, i + d = n → Ev (fun k => g k i) r := by
    intro d
    induction d with
    | zero => intro i hi; obtain rfl : i = n := by omega
              exact last
    | succ d ih => intro i hi; exact step i (by omega) (ih (i + 1) (by omega))
  exact key (n - i) i (by omega)
/-- A loop that counts down. -/
theorem Ev_down {α : Type} {r : α} (n : Nat) (g : Nat → Nat → Option α) (last : Ev (fun k => g k 0) r) (step : ∀ i, i < n → Ev (fun k => g k i) r → Ev (fun k => g k (i + 1)) r) : Ev (fun k => g k n) r := by
  have key : ∀ i, i ≤ n → Ev (fun k => g k i) r := by
    intro i
    induction i with
    | zero => intro _; exact last
    | succ i ih => intro hi; exact step i (by omega) (ih (by omega))
  exact key n (Nat.le_refl n)
theorem down_at (i : Nat) : (((i + 1 : Nat) : Int) - 1) = (i : Int) := by omega
theorem down_next {i : Nat} (h : i < 9223372036854775807) : wrap64 ((i : Int) - 1) = (i : Int) - 1 := by unfold wrap64; omega
theorem len64 {n : Nat} (h : n < 9223372036854775807) : wrap64 ((n : Int) - 1) = (n : Int) - 1 := by unfold wrap64; omega
theorem U_nat {n : Nat} (h : n < 18446744073709551616) : U (n : Int) := ⟨Int.natCast_nonneg _, by omega⟩
theorem two_pow_lt {n m : Nat} (h : n ≤ m) : 2 ^ n ≤ 2 ^ m := Nat.pow_le_pow_right (by omega) h
theorem U_two_pow {n : Nat} (h : n ≤ 63) : U ((2 ^ n : Nat) : Int) := U_nat (by have := two_pow_lt h; omega)
theorem i64wrap (a : Int) : IntKind.i64.wrap a = wrap64 a := by rw [IntKind.wrap_i64]; unfold wrap64; rfl
theorem int_two_pow (n : Nat) : ((2 : Int) ^ n) = ((2 ^ n : Nat) : Int) := by simp
theorem shl_i64 {n : Nat} (h : n ≤ 62) : shl .i64 1 (IntKind.u64.wrap (n : Int)) = ((2 ^ n : Nat) : Int) := by
  have hu : IntKind.u64.wrap (n : Int) = (n : Int) := wu64_of ⟨by omega, by omega⟩
  unfold shl
  rw [hu, Int.toNat_natCast, Nat.min_eq_left (by rw [show IntKind.i64.bits = 64 from rfl]; omega), i64wrap, Int.one_mul, int_two_pow]
  have := two_pow_lt (n := n) (m := 62) h
  generalize 2 ^ n = q at *
  rw [wrap64_of (by omega) (by omega)]
theorem shl_u64 {n : Nat} (h : n ≤ 63) : shl .u64 1 (IntKind.u64.wrap (n : Int)) = ((2 ^ n : Nat) : Int) := by
  have hu : IntKind.u64.wrap (n : Int) = (n : Int) := wu64_of ⟨by omega, by omega⟩
  unfold shl
  rw [hu, Int.toNat_natCast, Nat.min_eq_left (by rw [show IntKind.u64.bits = 64 from rfl]; omega), Int.one_mul, int_two_pow]
  have := two_pow_lt (n := n) (m := 63) h
  generalize 2 ^ n = q at *
  exact wu64_of ⟨by omega, by omega⟩
theorem UL_cons {a : Int} {l : List Int} (h : U a) (hl : UL l) : UL (a :: l) := by
  intro x hx
  rcases List.mem_cons.1 hx with rfl | hx
  · exact h
  · exact hl x hx
theorem first_diff (a b : List Int) (n : Nat) : (∀ i, i < n → a.getD i 0 = b.getD i 0) ∨ ∃ m, m < n ∧ (∀ i, i < m → a.getD i 0 = b.getD i 0) ∧ a.getD m 0 ≠ b.getD m 0 := by
  induction n with
  | zero => exact .inl (fun i hi => by omega)
  | succ n ih =>
    rcases ih with h | ⟨m, hm, h1, h2⟩
    · by_cases c : a.getD n 0 = b.getD n 0
      · refine .inl (fun i hi => ?_)
        by_cases e : i = n
        · rw [e]; exact c
        · exact h i (by omega)
      · exact .inr ⟨n, by omega, h, c⟩
    · exact .inr ⟨m, by omega, h1, h2⟩
theorem same_of_getD {a b : List Int} (hl : a.length = b.length) (h : ∀ i, i < a.length → a.getD i 0 = b.getD i 0) : a = b := by
  apply List.ext_getElem hl
  intro i h1 h2
  have := h i h1
  rw [List.getD_eq_getElem?_getD, List.getD_eq_getElem?_getD, List.getElem?_eq_getElem h1, List.getElem?_eq_getElem h2] at this
  simpa using this
theorem abacistref04_Same_ev (a b : List Int) (ha : a.length < 4294967296) : Ev (fun k => abacistref04_Same.f k a b) (decide (a = b)) := by
  unfold abacistref04_Same.f
  by_cases hl : a.length = b.length
  · have c0 : (a.length : Int) = (b.length : Int) := by omega
    have round : ∀ i, i < a.length → a.getD i 0 = b.getD i 0 → ∀ r : Bool, Ev (fun k => abacistref04_Same.l0 k a b ((i + 1 : Nat) : Int)) r → Ev (fun k => abacistref04_Same.l0 k a b (i : Int)) r := by
      intro i hi he r ih
      refine Ev.step (fun k => abacistref04_Same.l0.eq_2 ..) ?_
      have c1 : (i : Int) < (a.length : Int) := by omega
      have c2 : (0 : Int) ≤ (i : Int) := by omega
      have c3 : (i : Int) < (b.length : Int) := by omega
      simp -implicitDefEqProofs only [c1, c2, c3, rd_nat, he, if_true, nat64_succ (show i < 9223372036854775807 by omega)]
      exact ih
    simp -implicitDefEqProofs only [c0, if_true]
    rcases first_diff a b a.length with h | ⟨m, hm, h1, h2⟩
    · rw [decide_eq_true (same_of_getD hl h)]
      refine Ev_loop a.length (fun k i => abacistref04_Same.l0 k a b (i : Int)) ?_ (fun i hi ih => round i hi (h i hi) _ ih) 0 (Nat.zero_le _)
      refine Ev.step (fun k => abacistref04_Same.l0.eq_2 ..) ?_
      simp -implicitDefEqProofs only [Int.lt_irrefl, if_false]
      exact Ev.now _
    · have hne : a ≠ b := fun e => h2 (by rw [e])
      rw [decide_eq_false hne]
      refine Ev_loop m (fun k i => abacistref04_Same.l0 k a b (i : Int)) ?_ (fun i hi ih => round i (by omega) (h1 i hi) _ ih) 0 (Nat.zero_le _)
      refine Ev.step (fun k => abacistref04_Same.l0.eq_2 ..) ?_
      have c1 : (m : Int) < (a.length : Int) := by omega
      have c2 : (0 : Int) ≤ (m : Int) := by omega
      have c3 : (m : Int) < (b.length : Int) := by omega
      simp -implicitDefEqProofs only [c1, c2, c3, rd_nat, h2, if_true, if_false]
      exact Ev.now _
  · have c0 : ¬ (a.length : Int) = (b.length : Int) := by omega
    have hne : a ≠ b := fun e => hl (by rw [e])
    simp -implicitDefEqProofs only [c0, if_false, decide_eq_false hne]
    exact Ev.now _
theorem abacistref04_Same_refl (a : List Int) (ha : a.length < 4294967296) : Ev (fun k => abacistref04_Same.f k a a) true := by
  have := abacistref04_Same_ev a a ha
  rw [decide_eq_true rfl] at this; exact this

theorem chirp_Goes_eq (n : Int) : chirp_Goes.f n = some (decide (1 ≤ n ∧ n ≤ 65536 ∧ 18446744069414584320 % n = 0)) := by
  unfold chirp_Goes.f
  by_cases c1 : n ≥ 1
  · by_cases c2 : n ≤ 65536
    · rw [if_pos c1, if_pos c2, wu64_of ⟨by omega, by omega⟩, if_neg (by omega)]
      refine congrArg some ?_
      by_cases c3 : (18446744069414584320 : Int) % n = 0
      · rw [beq_iff_eq.2 c3, decide_eq_true ⟨c1, c2, c3⟩]
      · rw [beq_eq_false_iff_ne.2 c3, decide_eq_false (fun h => c3 h.2.2)]
    · rw [if_pos c1, if_neg c2, decide_eq_false (fun h => c2 h.2.1)]
  · rw [if_neg c1, decide_eq_false (fun h => c1 h.1)]

theorem gold_Of_eq {a : Int} (h : U a) : gold_Of.f a = some (un (cv a)) := by
  unfold gold_Of.f
  rw [un_cv]
  have := h.1; have := h.2
  by_cases c : a ≥ 18446744069414584321
  · rw [if_pos c, wu64]; congr 1; omega
  · rw [if_neg c]; congr 1; omega

theorem gold_Reduce_eq {hi lo : Int} (h : U hi) (h2 : U lo) : gold_Reduce.f hi lo = some (un (cv (hi * 18446744073709551616 + lo))) := by
  have e0 := h.1; have e1 := h.2; have e2 := h2.1; have e3 := h2.2
  unfold gold_Reduce.f
  rw [and_low h]
  simp only [wu64]
  have top : hi = 4294967296 * (hi / 4294967296) + hi % 4294967296 := by omega
  generalize hi / 4294967296 = t at *
  generalize hm : hi % 4294967296 = m at *
  have hm0 : 0 ≤ m := by omega
  have hm1 : m < 4294967296 := by omega
  have ht0 : 0 ≤ t := by omega
  have ht1 : t < 4294967296 := by omega
  have e : m * 4294967295 % 18446744073709551616 = m * 4294967295 := by omega
  rw [e]
  by_cases c1 : lo < t
  · rw [if_pos c1]
    have a1 : (lo - t) % 18446744073709551616 = lo - t + 18446744073709551616 := by omega
    rw [a1]
    have a2 : (lo - t + 18446744073709551616 - 4294967295) % 18446744073709551616 = lo - t + 18446744073709551616 - 4294967295 := by omega
    rw [a2]
    by_cases c2 : (lo - t + 18446744073709551616 - 4294967295 + m * 4294967295) % 18446744073709551616 < m * 4294967295
    · have c3 : (lo - t + 18446744073709551616 - 4294967295 + m * 4294967295) % 18446744073709551616 = lo - t - 4294967295 + m * 4294967295 := by omega
      have c4 : (lo - t - 4294967295 + m * 4294967295 + 4294967295) % 18446744073709551616 = lo - t + m * 4294967295 := by omega
      rw [if_pos c2, c3, c4, gold_Of_eq ⟨by omega, by omega⟩]
      simp only [Option.bind_some, Option.some.injEq, un_inj_iff]
      exact cv_of_eq (-(t * 4294967297 + m)) (by omega)
    · have c3 : (lo - t + 18446744073709551616 - 4294967295 + m * 4294967295) % 18446744073709551616 = lo - t + 18446744073709551616 - 4294967295 + m * 4294967295 := by omega
      rw [if_neg c2, c3, gold_Of_eq ⟨by omega, by omega⟩]
      simp only [Option.bind_some, Option.some.injEq, un_inj_iff]
      exact cv_of_eq (-(t * 4294967297 + m) + 1) (by omega)
  · rw [if_neg c1]
    have a1 : (lo - t) % 18446744073709551616 = lo - t := by omega
    rw [a1]
    by_cases c2 : (lo - t + m * 4294967295) % 18446744073709551616 < m * 4294967295
    · have c3 : (lo - t + m * 4294967295) % 18446744073709551616 = lo - t + m * 4294967295 - 18446744073709551616 := by omega
      have c4 : (lo - t + m * 4294967295 - 18446744073709551616 + 4294967295) % 18446744073709551616 = lo - t + m * 4294967295 - 18446744069414584321 := by omega
      rw [if_pos c2, c3, c4, gold_Of_eq ⟨by omega, by omega⟩]
      simp only [Option.bind_some, Option.some.injEq, un_inj_iff]
      exact cv_of_eq (-(t * 4294967297 + m) - 1) (by omega)
    · have c3 : (lo - t + m * 4294967295) % 18446744073709551616 = lo - t + m * 4294967295 := by omega
      rw [if_neg c2, c3, gold_Of_eq ⟨by omega, by omega⟩]
      simp only [Option.bind_some, Option.some.injEq, un_inj_iff]
      exact cv_of_eq (-(t * 4294967297 + m)) (by omega)

theorem mul64_arith (a b : Int) (ha : U a) (hb : U b) :
    IntKind.u64.wrap ((IntKind.u64.wrap ((IntKind.u64.wrap ((a / 4294967296) * (b / 4294967296))) + ((IntKind.u64.wrap ((IntKind.u64.wrap ((a / 4294967296) * (b % 4294967296))) + ((IntKind.u64.wrap ((a % 4294967296) * (b % 4294967296))) / 4294967296))) / 4294967296))) + ((IntKind.u64.wrap ((Go.bits .and .u64 (IntKind.u64.wrap ((IntKind.u64.wrap ((a / 4294967296) * (b % 4294967296))) + ((IntKind.u64.wrap ((a % 4294967296) * (b % 4294967296))) / 4294967296))) 4294967295) + (IntKind.u64.wrap ((a % 4294967296) * (b / 4294967296))))) / 4294967296)) = a * b / 18446744073709551616 := by
  rw [and_low (U_wrap _)]
  simp only [wu64]
  have a0 := ha.1; have a1 := ha.2; have b0 := hb.1; have b1 := hb.2
  have ea : a = 4294967296 * (a / 4294967296) + a % 4294967296 := by omega
  have eb : b = 4294967296 * (b / 4294967296) + b % 4294967296 := by omega
  have x0 : 0 ≤ a / 4294967296 := by omega
  have x1 : a / 4294967296 ≤ 4294967295 := by omega
  have y0 : 0 ≤ b / 4294967296 := by omega
  have y1 : b / 4294967296 ≤ 4294967295 := by omega
  have u0 : 0 ≤ a % 4294967296 := by omega
  have u1 : a % 4294967296 ≤ 4294967295 := by omega
  have v0 : 0 ≤ b % 4294967296 := by omega
  have v1 : b % 4294967296 ≤ 4294967295 := by omega
  generalize a / 4294967296 = x at *
  generalize b / 4294967296 = y at *
  generalize a % 4294967296 = u at *
  generalize b % 4294967296 = v at *
  have key : ∀ p q : Int, 0 ≤ p → p ≤ 4294967295 → 0 ≤ q → q ≤ 4294967295 → 0 ≤ p * q ∧ p * q ≤ 18446744065119617025 := by
    intro p q p0 p1 q0 q1
    refine ⟨Int.mul_nonneg p0 q0, ?_⟩
    have := Int.mul_le_mul p1 q1 q0 (by omega)
    omega
  have hxy := key x y x0 x1 y0 y1
  have hxv := key x v x0 x1 v0 v1
  have huv := key u v u0 u1 v0 v1
  have huy := key u y u0 u1 y0 y1
  have eab : a * b = 18446744073709551616 * (x * y) + 4294967296 * (x * v) + 4294967296 * (u * y) + u * v := by
    rw [ea, eb]; grind
  rw [eab]
  generalize x * y = xy at *
  generalize x * v = xv at *
  generalize u * v = uv at *
  generalize u * y = uy at *
  clear ea eb eab key
  rw [Int.emod_eq_of_lt hxy.1 (by omega), Int.emod_eq_of_lt hxv.1 (by omega), Int.emod_eq_of_lt huv.1 (by omega), Int.emod_eq_of_lt huy.1 (by omega)]
  rw [Int.emod_eq_of_lt (a := xv + uv / 4294967296) (by omega) (by omega)]
  omega
theorem bits_Mul64_eq {a b : Int} (ha : U a) (hb : U b) : bits_Mul64.f a b = some (a * b / 18446744073709551616, a * b % 18446744073709551616) := by
  unfold bits_Mul64.f
  rw [and_low ha, and_low hb, mul64_arith a b ha hb, wu64]

theorem wide_Mul_eq {a b : Int} (ha : U a) (hb : U b) : wide_Mul.f a b = some (a * b / 18446744073709551616, a * b % 18446744073709551616) := by
  unfold wide_Mul.f
  rw [bits_Mul64_eq ha hb]; rfl
theorem U_wide {a b : Int} (ha : U a) (hb : U b) : U (a * b / 18446744073709551616) ∧ U (a * b % 18446744073709551616) := by
  have h0 := Int.mul_nonneg ha.1 hb.1
  have h1 : a * b ≤ 18446744073709551615 * 18446744073709551615 := Int.mul_le_mul (by have := ha.2; omega) (by have := hb.2; omega) hb.1 (by omega)
  generalize a * b = c at *
  exact ⟨⟨by omega, by omega⟩, ⟨by omega, by omega⟩⟩

theorem gold_Mul_eq {a b : Int} (ha : U a) (hb : U b) : gold_Mul.f a b = some (un (cv a * cv b)) := by
  unfold gold_Mul.f
  rw [wide_Mul_eq ha hb]
  simp only [Option.bind_some]
  rw [gold_Reduce_eq (U_wide ha hb).1 (U_wide ha hb).2]
  simp only [Option.bind_some, ← cv_mul]
  congr 3
  omega

theorem gold_Pow_l0_ev : ∀ (m : Nat) (n : Nat) (x y : F), n < 2 ^ m → n < 18446744073709551616 → Ev (fun k => gold_Pow.l0 k (n : Int) (un x) (un y)) (un (x * y ^ n))
  | 0, n, x, y, h, _ => by
    obtain rfl : n = 0 := by simpa using h
    refine Ev.step (f := fun _ => some (un x)) (fun k => ?_) ?_
    · simp only [gold_Pow.l0]; rw [if_neg (by omega)]
    · have : x * y ^ 0 = x := by grind
      rw [this]; exact Ev.now _
  | m + 1, n, x, y, h, hn => by
    have hm : n / 2 < 2 ^ m := by rw [Nat.pow_succ] at h; omega
    have e2 : ((n : Int) / 2) = ((n / 2 : Nat) : Int) := by omega
    by_cases h0 : n = 0
    · subst h0
      refine Ev.step (f := fun _ => some (un x)) (fun k => ?_) ?_
      · simp only [gold_Pow.l0]; rw [if_neg (by omega)]
      · have : x * y ^ 0 = x := by grind
        rw [this]; exact Ev.now _
    · have hU : U (n : Int) := ⟨by omega, by omega⟩
      by_cases h1 : n % 2 = 1
      · refine Ev.step (f := fun k => gold_Pow.l0 k ((n / 2 : Nat) : Int) (un (x * y)) (un (y * y))) (fun k => ?_) ?_
        · simp only [gold_Pow.l0]
          rw [if_pos (by omega), and_one hU, if_pos (by omega), gold_Mul_eq (U_un _) (U_un _), gold_Mul_eq (U_un _) (U_un _), e2]
          simp only [Option.bind_some, cv_un]
        · have ih := gold_Pow_l0_ev m (n / 2) (x * y) (y * y) hm (by omega)
          have e : x * y * (y * y) ^ (n / 2) = x * y ^ n := by
            have : n = 2 * (n / 2) + 1 := by omega
            rw [show y * y = y ^ 2 by grind, ← pow_mul']
            rw [show x * y * y ^ (2 * (n / 2)) = x * y ^ (2 * (n / 2) + 1) by grind, ← this]
          rw [e] at ih; exact ih
      · refine Ev.step (f := fun k => gold_Pow.l0 k ((n / 2 : Nat) : Int) (un x) (un (y * y))) (fun k => ?_) ?_
        · simp only [gold_Pow.l0]
          rw [if_pos (by omega), and_one hU, if_neg (by omega), gold_Mul_eq (U_un _) (U_un _), e2]
          simp only [Option.bind_some, cv_un]
        · have ih := gold_Pow_l0_ev m (n / 2) x (y * y) hm (by omega)
          have e : x * (y * y) ^ (n / 2) = x * y ^ n := by
            have : n = 2 * (n / 2) := by omega
            rw [show y * y = y ^ 2 by grind, ← pow_mul', ← this]
          rw [e] at ih; exact ih
theorem gold_Pow_ev {a n : Int} (ha : U a) (hn : U n) : Ev (fun k => gold_Pow.f k a n) (un (cv a ^ n.toNat)) := by
  have h := gold_Pow_l0_ev 64 n.toNat 1 (cv a) (by have := hn.2; omega) (by have := hn.2; omega)
  rw [un_one, Int.toNat_of_nonneg hn.1] at h
  have e : 1 * cv a ^ n.toNat = cv a ^ n.toNat := by grind
  rw [e] at h
  refine Ev.congr (fun k => ?_) h
  unfold gold_Pow.f
  rw [gold_Of_eq ha]; rfl

def erz (x : F) : Int := if x = 0 then 13 else 0
theorem erz_ne {x : F} (h : x ≠ 0) : erz x = 0 := if_neg h
theorem erz_zero : erz 0 = 13 := if_pos rfl
theorem gold_Inv_ev {a : Int} (h : U a) : Ev (fun k => gold_Inv.f k a) (un (inv (cv a)), erz (cv a)) := by
  unfold gold_Inv.f
  rw [gold_Of_eq h]
  simp -implicitDefEqProofs only [Option.bind_some]
  by_cases c : cv a = 0
  · have c' : un (cv a) = 0 := un_eq_zero.2 c
    simp -implicitDefEqProofs only [c', if_true]
    rw [c, inv_zero, erz_zero, un_zero]; exact Ev.now _
  · have c' : ¬ un (cv a) = 0 := fun h => c (un_eq_zero.1 h)
    simp -implicitDefEqProofs only [c', if_false, erz_ne c]
    refine Ev.bind (gold_Pow_ev h ⟨by omega, by omega⟩) ?_
    exact Ev.now _

/-- The root of a length. -/
def rtn (n : Nat) : F := cv 7 ^ (18446744069414584320 / n)
/-- The root of a length and direction. -/
def rtd (n : Nat) (d : Int) : F := if d = 1 then inv (rtn n) else rtn n
theorem rtn_ne (n : Nat) : rtn n ≠ 0 := g_pow_ne _
theorem chirp_Root_len {n d : Int} (h : ¬ (1 ≤ n ∧ n ≤ 65536 ∧ 18446744069414584320 % n = 0)) : Ev (fun k => chirp_Root.f k n d) (0, 4) := by
  unfold chirp_Root.f
  rw [chirp_Goes_eq, decide_eq_false h]
  simp -implicitDefEqProofs only [Option.bind_some, Bool.false_eq_true, if_false]
  exact Ev.now _
theorem chirp_Root_kind {n d : Int} (h : 1 ≤ n ∧ n ≤ 65536 ∧ 18446744069414584320 % n = 0) (hd : d < 0 ∨ 1 < d) : Ev (fun k => chirp_Root.f k n d) (0, 18) := by
  unfold chirp_Root.f
  rw [chirp_Goes_eq, decide_eq_true h]
  simp -implicitDefEqProofs only [Option.bind_some, if_true]
  by_cases c : d < 0
  · simp -implicitDefEqProofs only [c, if_true]
    exact Ev.now _
  · simp -implicitDefEqProofs only [c, if_false, show d > 1 by omega, if_true]
    exact Ev.now _
theorem chirp_Root_ev {n : Nat} {d : Int} (h : 1 ≤ n ∧ n ≤ 65536 ∧ 18446744069414584320 % n = 0) (hd : d = 0 ∨ d = 1) : Ev (fun k => chirp_Root.f k (n : Int) d) (un (rtd n d), 0) := by
  unfold chirp_Root.f
  obtain ⟨h1, h2, h3⟩ := h
  have hd2 : (18446744069414584320 : Int) / (n : Int) = ((18446744069414584320 / n : Nat) : Int) := rfl
  have hu : U ((18446744069414584320 / n : Nat) : Int) := U_nat (by
    have := Nat.div_le_self 18446744069414584320 n
    omega)
  rw [chirp_Goes_eq, decide_eq_true ⟨by omega, by omega, show ((18446744069414584320 % n : Nat) : Int) = 0 by rw [h3]; rfl⟩]
  simp -implicitDefEqProofs only [Option.bind_some, if_true, show ¬ d < 0 by omega, if_false, show ¬ d > 1 by omega, wu64_of (U_nat (show n < 18446744073709551616 by omega)), show ¬ (n : Int) = 0 by omega, hd2, wu64_of hu]
  refine Ev.bind (gold_Pow_ev ⟨by omega, by omega⟩ hu) ?_
  have e : un (cv 7 ^ ((18446744069414584320 / n : Nat) : Int).toNat) = un (rtn n) := by rw [Int.toNat_natCast]; rfl
  rw [e]
  rcases hd with rfl | rfl
  · simp -implicitDefEqProofs only [show ¬ (0 : Int) = 1 by decide, if_false, rtd]
    exact Ev.now _
  · simp -implicitDefEqProofs only [if_true, rtd]
    refine Ev.bind (gold_Inv_ev (U_un _)) ?_
    rw [cv_un, erz_ne (rtn_ne n)]
    exact Ev.now _
theorem goes_nat (n : Nat) : (1 ≤ (n : Int) ∧ (n : Int) ≤ 65536 ∧ (18446744069414584320 : Int) % (n : Int) = 0) ↔ (1 ≤ n ∧ n ≤ 65536 ∧ 18446744069414584320 % n = 0) := by
  have e : (18446744069414584320 : Int) % (n : Int) = ((18446744069414584320 % n : Nat) : Int) := rfl
  rw [e]
  constructor
  · rintro ⟨h1, h2, h3⟩; exact ⟨by omega, by omega, by omega⟩
  · rintro ⟨h1, h2, h3⟩; exact ⟨by omega, by omega, by omega⟩

theorem chirp_power_ev {n : Nat} (hn : n ≤ 524288) : ∃ t, t ≤ 19 ∧ n ≤ 2 ^ t ∧ Ev (fun k => chirp_power.f k (n : Int)) ((2 ^ t : Nat) : Int) := by
  have key : ∀ (d s : Nat), s + d = 19 → ∃ t, t ≤ 19 ∧ n ≤ 2 ^ t ∧ Ev (fun k => chirp_power.l0 k (n : Int) ((2 ^ s : Nat) : Int)) ((2 ^ t : Nat) : Int) := by
    intro d
    induction d with
    | zero =>
      intro s hs
      obtain rfl : s = 19 := by omega
      refine ⟨19, Nat.le_refl _, by omega, ?_⟩
      refine Ev.step (fun k => chirp_power.l0.eq_2 ..) ?_
      simp -implicitDefEqProofs only [if_neg (show ¬ ((2 ^ 19 : Nat) : Int) < (n : Int) by omega)]
      exact Ev.now _
    | succ d ih =>
      intro s hs
      by_cases c : 2 ^ s < n
      · obtain ⟨t, h1, h2, h3⟩ := ih (s + 1) (by omega)
        refine ⟨t, h1, h2, ?_⟩
        refine Ev.step (fun k => chirp_power.l0.eq_2 ..) ?_
        have e : wrap64 (((2 ^ s : Nat) : Int) * 2) = ((2 ^ (s + 1) : Nat) : Int) := by
          rw [Nat.pow_succ]
          generalize 2 ^ s = q at c ⊢
          rw [wrap64_of (by omega) (by omega)]; omega
        simp -implicitDefEqProofs only [if_pos (show ((2 ^ s : Nat) : Int) < (n : Int) from Int.ofNat_lt.2 c), e]
        exact h3
      · refine ⟨s, by omega, by omega, ?_⟩
        refine Ev.step (fun k => chirp_power.l0.eq_2 ..) ?_
        simp -implicitDefEqProofs only [if_neg (show ¬ ((2 ^ s : Nat) : Int) < (n : Int) from fun h => c (Int.ofNat_lt.1 h))]
        exact Ev.now _
  exact key 19 0 rfl

theorem hil_state {n : Nat} (f : Nat → F) (i : Nat) : (tab n (fun j => if j < i then f j else 0)).set i (un (f i)) = tab n (fun j => if j < i + 1 then f j else 0) := by
  rw [tab_set]
  refine tab_congr (fun j hj => ?_)
  by_cases e : j = i
  · rw [if_pos e, if_pos (by omega), e]
  · rw [if_neg e]
    by_cases d : j < i
    · rw [if_pos d, if_pos (by omega)]
    · rw [if_neg d, if_neg (by omega)]
theorem chirp_hills_ev {w : Int} (hw : U w) {n : Nat} (hn : n ≤ 1048576) : Ev (fun k => chirp_hills.f k w (n : Int)) (tab n (hil (cv w))) := by
  unfold chirp_hills.f
  simp -implicitDefEqProofs only [show (0 : Int) ≤ (n : Int) by omega, Int.toNat_natCast, show n ≤ 35184372088832 by omega, if_true, Option.bind_some, List.length_replicate]
  have e0 : List.replicate n (0 : Int) = tab n (fun j => if j < 0 then hil (cv w) j else 0) := by
    rw [replicate_tab]
    exact tab_congr (fun j hj => (if_neg (by omega)).symm)
  have e1 : (1 : Int) = un (hil (cv w) 0) := by rw [hil_zero, un_one]
  have e2 : (1 : Int) = un (cv w ^ 0) := by rw [show cv w ^ 0 = 1 by grind, un_one]
  have key : Ev (fun k => chirp_hills.l0 k w (tab n (fun j => if j < 0 then hil (cv w) j else 0)) (un (hil (cv w) 0)) (un (cv w ^ 0)) (n : Int) ((0 : Nat) : Int)) (tab n (hil (cv w))) := by
    refine Ev_loop n (fun k i => chirp_hills.l0 k w (tab n (fun j => if j < i then hil (cv w) j else 0)) (un (hil (cv w) i)) (un (cv w ^ i)) (n : Int) (i : Int)) ?_ (fun i hi ih => ?_) 0 (Nat.zero_le _)
    · refine Ev.step (fun k => chirp_hills.l0.eq_2 ..) ?_
      simp -implicitDefEqProofs only [Int.lt_irrefl, if_false]
      rw [tab_congr (g := hil (cv w)) (fun j hj => if_pos hj)]
      exact Ev.now _
    · refine Ev.step (fun k => chirp_hills.l0.eq_2 ..) ?_
      have es : cv w ^ i * cv w = cv w ^ (i + 1) := by grind
      simp -implicitDefEqProofs only [show (i : Int) < (n : Int) by omega, show (0 : Int) ≤ (i : Int) by omega, tab_length, if_true, gold_Mul_eq (U_un _) (U_un _), gold_Mul_eq (U_un _) hw, Option.bind_some, cv_un, es, ← hil_succ, Int.toNat_natCast, nat64_succ (show i < 9223372036854775807 by omega), hil_state]
      exact ih
  rw [← e0, ← e1, ← e2] at key
  exact key

theorem root_Fits_all : ((List.range 33).all fun j => decide (root_Fits.f ((2 ^ j : Nat) : Int) = some ((j : Int), true))) = true := by decide +kernel
theorem root_Fits_yes {j : Nat} (hj : j ≤ 32) : root_Fits.f ((2 ^ j : Nat) : Int) = some ((j : Int), true) :=
  of_decide_eq_true (List.all_eq_true.1 root_Fits_all j (List.mem_range.2 (by omega)))
theorem conv_check_yes {a b : List Int} {k : Nat} (hk : k ≤ 19) (ha : a.length = 2 ^ k) (hb : b.length = 2 ^ k) : conv_check.f a b = some ((k : Int), 0) := by
  have hp := two_pow_lt (n := k) (m := 19) hk
  have e0 : (a.length : Int) = ((2 ^ k : Nat) : Int) := by rw [ha]
  unfold conv_check.f
  rw [e0, root_Fits_yes (j := k) (by omega), Option.bind_some, if_pos (by rw [hb]), if_pos rfl, if_neg]
  have : 2 ^ k ≤ 524288 := hp
  generalize 2 ^ k = p at this
  omega
theorem twid_Scale_ev {l : List Int} (h : UL l) (hl : l.length < 4294967296) {a : Int} (ha : U a) : Ev (fun k => twid_Scale.f k l a) (tab l.length (fun i => co l i * cv a)) := by
  unfold twid_Scale.f
  have d1 : (0 : Int) ≤ (l.length : Int) := by omega
  have d2 : l.length ≤ 35184372088832 := by omega
  simp -implicitDefEqProofs only [d1, d2, if_true, Int.toNat_natCast, replicate_tab]
  have e0 : tab l.length (fun _ => (0 : F)) = tab l.length (fun j => if j < 0 then co l j * cv a else 0) := tab_congr (fun j hj => by rw [if_neg (by omega)])
  rw [e0]
  refine Ev_loop l.length (fun k i => twid_Scale.l0 k a (tab l.length (fun j => if j < i then co l j * cv a else 0)) l (l.length : Int) (i : Int)) ?_ (fun i hi ih => ?_) 0 (Nat.zero_le _)
  · refine Ev.step (fun k => twid_Scale.l0.eq_2 ..) ?_
    simp -implicitDefEqProofs only [Int.lt_irrefl, if_false]
    rw [tab_congr (g := fun i => co l i * cv a) (fun i hi => by rw [if_pos hi])]
    exact Ev.now _
  · refine Ev.step (fun k => twid_Scale.l0.eq_2 ..) ?_
    have c1 : (i : Int) < (l.length : Int) := by omega
    have c2 : (0 : Int) ≤ (i : Int) := by omega
    simp -implicitDefEqProofs only [c1, c2, tab_length, if_true, gold_Mul_eq (U_rd h _) ha, Option.bind_some, cv_rd, Int.toNat_natCast, tab_set, nat64_succ (show i < 9223372036854775807 by omega)]
    have e : tab l.length (fun j => if j = i then co l i * cv a else if j < i then co l j * cv a else 0) = tab l.length (fun j => if j < i + 1 then co l j * cv a else 0) := by
      apply tab_congr
      intro j hj
      by_cases hji : j = i
      · subst hji; rw [if_pos rfl, if_pos (by omega)]
      · rw [if_neg hji]
        by_cases hh : j < i
        · rw [if_pos hh, if_pos (by omega)]
        · rw [if_neg hh, if_neg (by omega)]
    rw [e]
    exact ih

theorem bits_Add64_eq {a b c : Int} (ha : 0 ≤ a) (hb : 0 ≤ b) (h0 : 0 ≤ c) (h1 : c ≤ 1) : bits_Add64.f a b c = some ((a + b + c) % 18446744073709551616, (a + b + c) / 18446744073709551616) := by
  unfold bits_Add64.f
  rw [if_pos ha, if_pos hb, if_pos h0, if_pos h1]

theorem wide_Add_eq {a b c d : Int} (ha : U a) (hb : U b) (hc : U c) (hd : U d) :
    wide_Add.f a b c d = some ((a * 18446744073709551616 + b + (c * 18446744073709551616 + d)) / 18446744073709551616 % 18446744073709551616, (a * 18446744073709551616 + b + (c * 18446744073709551616 + d)) % 18446744073709551616, (a * 18446744073709551616 + b + (c * 18446744073709551616 + d)) / 340282366920938463463374607431768211456) := by
  have := ha.1; have := ha.2; have := hb.1; have := hb.2; have := hc.1; have := hc.2; have := hd.1; have := hd.2
  unfold wide_Add.f
  rw [bits_Add64_eq hb.1 hd.1 (by omega) (by omega)]
  simp only [Option.bind_some]
  rw [bits_Add64_eq ha.1 hc.1 (by omega) (by omega)]
  simp only [Option.bind_some, Option.some.injEq, Prod.mk.injEq]
  exact ⟨by omega, by omega, by omega⟩

theorem gold_Add_eq {a b : Int} (ha : U a) (hb : U b) : gold_Add.f a b = some (un (cv a + cv b)) := by
  unfold gold_Add.f
  rw [gold_Of_eq ha, gold_Of_eq hb]
  simp only [Option.bind_some]
  rw [wide_Add_eq ⟨by omega, by omega⟩ (U_un _) ⟨by omega, by omega⟩ (U_un _)]
  simp only [Option.bind_some]
  have h0 := un_lo (cv a); have h1 := un_hi (cv a); have h2 := un_lo (cv b); have h3 := un_hi (cv b)
  rw [gold_Reduce_eq ⟨by omega, by omega⟩ ⟨by omega, by omega⟩]
  simp only [Option.bind_some]
  have e : cv a + cv b = cv (un (cv a) + un (cv b)) := by rw [cv_add, cv_un, cv_un]
  rw [e]
  congr 2
  exact cv_of_eq 0 (by omega)

theorem gold_Neg_eq {a : Int} (h : U a) : gold_Neg.f a = some (un (- cv a)) := by
  unfold gold_Neg.f
  rw [gold_Of_eq h]
  simp only [Option.bind_some, un_neg, un_cv]
  by_cases c : a % 18446744069414584321 = 0
  · rw [if_pos c, c]; rfl
  · rw [if_neg c, wu64]; congr 1; omega

theorem gold_Sub_eq {a b : Int} (ha : U a) (hb : U b) : gold_Sub.f a b = some (un (cv a - cv b)) := by
  unfold gold_Sub.f
  rw [gold_Neg_eq hb]
  simp only [Option.bind_some]
  rw [gold_Add_eq ha (U_un _)]
  simp only [Option.bind_some, cv_un]
  congr 2; grind

theorem hk_crossO_eq {a b c d u : Int} (ha : U a) (hb : U b) (hc : U c) (hd : U d) (hu : U u) :
    hk_crossO a b c d u = some (un ((cv a + cv c) + (cv b + cv d)), un ((cv a - cv c) + cv u * (cv b - cv d)), un ((cv a + cv c) - (cv b + cv d)), un ((cv a - cv c) - cv u * (cv b - cv d))) := by
  unfold hk_crossO
  rw [gold_Add_eq ha hc, Option.bind_some, gold_Sub_eq ha hc, Option.bind_some, gold_Add_eq hb hd, Option.bind_some, gold_Sub_eq hb hd, Option.bind_some, gold_Mul_eq hu (U_un _), Option.bind_some, gold_Add_eq (U_un _) (U_un _), Option.bind_some, gold_Add_eq (U_un _) (U_un _), Option.bind_some, gold_Sub_eq (U_un _) (U_un _), Option.bind_some, gold_Sub_eq (U_un _) (U_un _), Option.bind_some]
  simp -implicitDefEqProofs only [cv_un]

/-- One crossing: what stands behind it. -/
theorem hk_qstep_eq {N n s i q : Nat} (hN : N = n * s) (h4 : n = 4 * (n / 4)) (hi : i < n / 4) (hq : q < s) {W u : F} (hu : u * u = -1) (pf : Nat → F) (pn : Nat) (hpn : N ≤ pn) (hpf : ∀ j, pf (j * s) = W ^ j) (x g0 : Nat → F) :
    hk_qstep (tab pn pf) (tab N x) (un u) n s s i q (tab N (q4 s (qx s (n / 4) W u x) g0 i q)) = some (tab N (q4 s (qx s (n / 4) W u x) g0 i (q + 1))) := by
  obtain ⟨h, hh⟩ : ∃ h, h = n / 4 := ⟨_, rfl⟩
  rw [← hh] at h4 hi ⊢
  have hs : 0 < s := by omega
  have lt : ∀ c, c < 4 → q + s * (i + c * h) < N := fun c hc => by
    have h1 : i + c * h + 1 ≤ 4 * h := by
      have : c * h ≤ 3 * h := Nat.mul_le_mul_right h (by omega)
      omega
    have h2 : s * (i + c * h + 1) ≤ s * (4 * h) := Nat.mul_le_mul_left s h1
    rw [hN, h4, Nat.mul_comm (4 * h) s]
    rw [Nat.mul_add s, Nat.mul_one] at h2
    omega
  have lp : ∀ c, c < 4 → c * i * s < pn := fun c hc => by
    have h1 : c * i ≤ 3 * i := Nat.mul_le_mul_right i (by omega)
    have h2 : c * i * s < 4 * h * s := Nat.mul_lt_mul_of_pos_right (by omega) hs
    rw [hN, h4] at hpn
    omega
  have cr := hk_crossO_eq (U_un (x (q + s * (i + 0 * h)))) (U_un (x (q + s * (i + 1 * h)))) (U_un (x (q + s * (i + 2 * h)))) (U_un (x (q + s * (i + 3 * h)))) (U_un u)
  simp -implicitDefEqProofs only [cv_un] at cr
  obtain ⟨z0, z1, z2, z3⟩ := q_cross (x (q + s * (i + 0 * h))) (x (q + s * (i + 1 * h))) (x (q + s * (i + 2 * h))) (x (q + s * (i + 3 * h))) u hu
  rw [z0, z1, z2, z3] at cr
  have tt : ∀ t, t < 4 → qx s h W u x (q + s * 4 * i + t * s) = (x (q + s * (i + 0 * h)) + x (q + s * (i + 1 * h)) * u ^ (1 * t) + x (q + s * (i + 2 * h)) * u ^ (2 * t) + x (q + s * (i + 3 * h)) * u ^ (3 * t)) * W ^ (t * i) := fun t ht => by
    rw [qx_at h W u x hq ht, Nat.zero_mul, Nat.one_mul h, Nat.add_zero]
  have m1 := tt 1 (by omega)
  have m2 := tt 2 (by omega)
  have m3 := tt 3 (by omega)
  have m0 := tt 0 (by omega)
  rw [show q + s * 4 * i + 0 * s = q + s * 4 * i by omega, Nat.zero_mul i, k1 W, k2] at m0
  rw [Nat.one_mul s] at m1
  have w1 : rd (tab pn pf) ((i * s : Nat) : Int) = un (W ^ (1 * i)) := by
    have := lp 1 (by omega)
    rw [Nat.one_mul] at this ⊢
    rw [rd_tab this, hpf]
  have w2 : rd (tab pn pf) ((2 * i * s : Nat) : Int) = un (W ^ (2 * i)) := by rw [rd_tab (lp 2 (by omega)), hpf]
  have w3 : rd (tab pn pf) ((3 * i * s : Nat) : Int) = un (W ^ (3 * i)) := by rw [rd_tab (lp 3 (by omega)), hpf]
  unfold hk_qstep
  rw [← hh, rd_tab (lt 0 (by omega)), rd_tab (lt 1 (by omega)), rd_tab (lt 2 (by omega)), rd_tab (lt 3 (by omega)), cr, w1, w2, w3, Option.bind_some]
  simp -implicitDefEqProofs only []
  rw [gold_Mul_eq (U_un _) (U_un _), Option.bind_some, gold_Mul_eq (U_un _) (U_un _), Option.bind_some, gold_Mul_eq (U_un _) (U_un _), Option.bind_some]
  simp -implicitDefEqProofs only [cv_un]
  rw [← m0, ← m1, ← m2, ← m3]
  congr 1
  exact q4_step hq (qx s h W u x) g0
where
  k1 {R : Nat} [NeZero R] (W : Fin R) : W ^ 0 = 1 := by grind
  k2 {R : Nat} [NeZero R] (a : Fin R) : a * 1 = a := by grind
theorem hk_qin_eq {N n s i : Nat} (hN : N = n * s) (h4 : n = 4 * (n / 4)) (hi : i < n / 4) {W u : F} (hu : u * u = -1) (pf : Nat → F) (pn : Nat) (hpn : N ≤ pn) (hpf : ∀ j, pf (j * s) = W ^ j) (x g0 : Nat → F) :
    ∀ q, q ≤ s → hk_qin (tab pn pf) (tab N x) (un u) n s s i (tab N (q4 s (qx s (n / 4) W u x) g0 i 0)) q = some (tab N (q4 s (qx s (n / 4) W u x) g0 i q))
  | 0, _ => rfl
  | q + 1, hq => by
    unfold hk_qin
    rw [hk_qin_eq hN h4 hi hu pf pn hpn hpf x g0 q (by omega), Option.bind_some]
    exact hk_qstep_eq hN h4 hi (by omega) hu pf pn hpn hpf x g0
theorem hk_qout_at {N n s : Nat} (hN : N = n * s) (hs : 0 < s) (h4 : n = 4 * (n / 4)) {W u : F} (hu : u * u = -1) (pf : Nat → F) (pn : Nat) (hpn : N ≤ pn) (hpf : ∀ j, pf (j * s) = W ^ j) (x g0 : Nat → F) :
    ∀ i, i ≤ n / 4 → hk_qout (tab pn pf) (tab N x) (un u) n s s (tab N g0) i = some (tab N (q4 s (qx s (n / 4) W u x) g0 i 0))
  | 0, _ => by
    unfold hk_qout
    exact congrArg some (tab_congr (fun p _ => (q4_zero s _ g0 p).symm))
  | i + 1, hi => by
    unfold hk_qout
    rw [hk_qout_at hN hs h4 hu pf pn hpn hpf x g0 i (by omega), Option.bind_some, hk_qin_eq hN h4 (by omega) hu pf pn hpn hpf x g0 s (Nat.le_refl _)]
    exact congrArg some (tab_congr (fun p _ => q4_next hs _ g0 i p))
theorem hk_qout_eq {N n s : Nat} (hN : N = n * s) (hs : 0 < s) (h4 : n = 4 * (n / 4)) {W u : F} (hu : u * u = -1) (pf : Nat → F) (pn : Nat) (hpn : N ≤ pn) (hpf : ∀ j, pf (j * s) = W ^ j) (x g0 : Nat → F) :
    hk_qout (tab pn pf) (tab N x) (un u) n s s (tab N g0) (n / 4) = some (tab N (qx s (n / 4) W u x)) := by
  rw [hk_qout_at hN hs h4 hu pf pn hpn hpf x g0 (n / 4) (Nat.le_refl _)]
  exact congrArg some (tab_congr (fun p hp => q4_end hs _ g0 (by rw [← h4, ← hN]; exact hp)))

/-- A last pass's target while the pass is at place q. -/
def h4v (s : Nat) (x g0 : Nat → F) (q p : Nat) : F := if p < q then x p + x (p + s) else if s ≤ p ∧ p < s + q then x (p - s) - x p else g0 p
theorem hk_hin_eq (s : Nat) (x g0 : Nat → F) : ∀ q, q ≤ s → hk_hin (tab (2 * s) x) s (tab (2 * s) g0) q = some (tab (2 * s) (h4v s x g0 q))
  | 0, _ => by
    unfold hk_hin
    refine congrArg some (tab_congr (fun p _ => ?_))
    unfold h4v
    rw [if_neg (by omega), if_neg (by omega)]
  | q + 1, hq => by
    unfold hk_hin
    rw [hk_hin_eq s x g0 q (by omega), Option.bind_some]
    unfold hk_hstep
    rw [rd_tab (show q < 2 * s by omega), rd_tab (show q + s < 2 * s by omega), gold_Add_eq (U_un _) (U_un _), Option.bind_some, gold_Sub_eq (U_un _) (U_un _), Option.bind_some, cv_un, cv_un, tab_set, tab_set]
    refine congrArg some (tab_congr (fun p _ => ?_))
    unfold h4v
    by_cases c1 : p = q + s
    · rw [if_pos c1, if_neg (by omega), if_pos (by omega), c1, Nat.add_sub_cancel]
    · rw [if_neg c1]
      by_cases c2 : p = q
      · rw [if_pos c2, if_pos (by omega), c2]
      · rw [if_neg c2]
        by_cases c3 : p < q
        · rw [if_pos c3, if_pos (by omega)]
        · rw [if_neg c3, if_neg (show ¬ p < q + 1 by omega)]
          by_cases c4 : s ≤ p ∧ p < s + q
          · rw [if_pos c4, if_pos (by omega)]
          · rw [if_neg c4, if_neg (by omega)]

theorem hk_k4s_eq {k : Nat} (hk : k ≤ 20) {d : Int} (hd : d = 0 ∨ d = 1) (x : Nat → F) : ∀ j, 2 * j ≤ k → ∃ g0 : Nat → F,
    hk_k4s (tab (2 ^ k) (fun i => dr k d ^ i)) (un (dr 2 d)) k (tab (2 ^ k) x) j = some (tab (2 ^ k) (qv k (dr k d) (dr 2 d) x j), tab (2 ^ k) g0)
  | 0, _ => ⟨fun _ => 0, by unfold hk_k4s; rw [tab_length, replicate_tab]; rfl⟩
  | j + 1, hj => by
    obtain ⟨g0, e⟩ := hk_k4s_eq hk hd x j (by omega)
    refine ⟨qv k (dr k d) (dr 2 d) x j, ?_⟩
    unfold hk_k4s
    rw [e, Option.bind_some]
    simp -implicitDefEqProofs only [tab_length]
    have hs : 0 < 4 ^ j := Nat.pow_pos (by omega)
    have hn : 0 < 2 ^ (k - 2 * j) := Nat.two_pow_pos _
    have hN : 2 ^ k = 2 ^ (k - 2 * j) * 4 ^ j := by rw [four_pow, ← Nat.pow_add]; congr 1; omega
    have hst : 2 ^ k / 2 ^ (k - 2 * j) = 4 ^ j := by rw [hN, Nat.mul_div_cancel_left _ hn]
    have h4 : 2 ^ (k - 2 * j) = 4 * (2 ^ (k - 2 * j) / 4) := by
      rw [two_quarter (k := k) (j := j) hj, Nat.mul_div_cancel_left _ (by omega)]
    rw [hst, hk_qout_eq hN hs h4 (dr_two_sq hd) (fun i => dr k d ^ i) (2 ^ k) (Nat.le_refl _) (W := dr k d ^ 4 ^ j) (fun i => by rw [Nat.mul_comm, pow_mul'])]
    rfl
theorem hk_k4r_eq {k : Nat} (hk : k ≤ 20) {d : Int} (hd : d = 0 ∨ d = 1) (x : Nat → F) :
    hk_k4r (tab (2 ^ k) (fun i => dr k d ^ i)) (un (dr 2 d)) k (tab (2 ^ k) x) = some (tab (2 ^ k) (fun p => dft (2 ^ k) (dr k d) x p)) := by
  have key : ∀ q, q < 4 ^ (k / 2) → ∀ p, dft (2 ^ k) (dr k d) x (q + 4 ^ (k / 2) * p) = Sm (2 ^ (k - 2 * (k / 2))) (fun m => qv k (dr k d) (dr 2 d) x (k / 2) (q + 4 ^ (k / 2) * m) * (dr k d ^ 4 ^ (k / 2)) ^ (m * p)) := fun q hq p => by
    by_cases h2 : 2 ≤ k
    · rw [← qv_sum (dr k d) (dr 2 d) (dr_drop (by omega) h2 hd) (u4_of (dr_two_sq hd)) x (k / 2) (by omega) q hq p]
      unfold dft
      exact Sm_congr (fun m _ => by rw [← pow_mul', Nat.mul_comm m])
    · have e : k / 2 = 0 := by omega
      rw [e] at hq ⊢
      obtain rfl : q = 0 := by rw [Nat.pow_zero] at hq; omega
      unfold dft
      refine Sm_congr (fun m _ => ?_)
      show x m * (dr k d ^ (0 + 1 * p)) ^ m = x (0 + 1 * m) * (dr k d ^ 1) ^ (m * p)
      rw [Nat.zero_add, Nat.zero_add, Nat.one_mul, Nat.one_mul, k1 (dr k d), ← pow_mul', Nat.mul_comm m]
  obtain ⟨g0, e⟩ := hk_k4s_eq hk hd x (k / 2) (by omega)
  unfold hk_k4r
  rw [e, Option.bind_some]
  have hs : 0 < 4 ^ (k / 2) := Nat.pow_pos (by omega)
  rcases Nat.mod_two_eq_zero_or_one k with h0 | h1
  · rw [if_neg (by omega)]
    have hN : 2 ^ k = 4 ^ (k / 2) := by rw [four_pow]; congr 1; omega
    refine congrArg some (tab_congr (fun p hp => ?_))
    have := key p (by omega) 0
    rw [Nat.mul_zero, Nat.add_zero, show k - 2 * (k / 2) = 0 by omega] at this
    rw [this]
    show _ = 0 + qv k (dr k d) (dr 2 d) x (k / 2) (p + 4 ^ (k / 2) * 0) * (dr k d ^ 4 ^ (k / 2)) ^ (0 * 0)
    rw [Nat.mul_zero, Nat.add_zero, Nat.mul_zero]
    exact k2 _ _
  · rw [if_pos h1]
    have hN : 2 ^ k = 2 * 4 ^ (k / 2) := by
      rw [four_pow, show 2 * 2 ^ (2 * (k / 2)) = 2 ^ (2 * (k / 2) + 1) by rw [Nat.pow_succ]; omega]; congr 1; omega
    have hw : dr k d ^ 4 ^ (k / 2) = -1 := by
      rw [four_pow, show 2 * (k / 2) = k - 1 by omega]
      exact dr_half4 (by omega) (by omega) hd
    rw [hw] at key
    rw [show k - 2 * (k / 2) = 1 by omega] at key
    generalize 4 ^ (k / 2) = s at *
    rw [hN, hk_hin_eq s _ g0 s (Nat.le_refl _), ← hN]
    refine congrArg some (tab_congr (fun p hp => ?_))
    unfold h4v
    by_cases c : p < s
    · have := key p c 0
      rw [Nat.mul_zero, Nat.add_zero] at this
      rw [if_pos c, this]
      show _ = 0 + qv k (dr k d) (dr 2 d) x (k / 2) (p + s * 0) * (-1) ^ (0 * 0) + qv k (dr k d) (dr 2 d) x (k / 2) (p + s * 1) * (-1) ^ (1 * 0)
      rw [Nat.mul_zero, Nat.add_zero, Nat.mul_one, Nat.mul_zero]
      exact k3 _ _
    · have := key (p - s) (by omega) 1
      rw [Nat.mul_one, show p - s + s = p by omega] at this
      rw [if_neg c, if_pos (by omega), this]
      show _ = 0 + qv k (dr k d) (dr 2 d) x (k / 2) (p - s + s * 0) * (-1) ^ (0 * 1) + qv k (dr k d) (dr 2 d) x (k / 2) (p - s + s * 1) * (-1) ^ (1 * 1)
      rw [Nat.mul_zero, Nat.add_zero, Nat.mul_one s, show p - s + s = p by omega, Nat.zero_mul, Nat.mul_one]
      exact k4 _ _
where
  k1 {R : Nat} [NeZero R] (w : Fin R) : w ^ 1 = w := by grind
  k2 {R : Nat} [NeZero R] (a w : Fin R) : a = 0 + a * w ^ 0 := by grind
  k3 {R : Nat} [NeZero R] (a b : Fin R) : a + b = 0 + a * (-1) ^ 0 + b * (-1) ^ 0 := by grind
  k4 {R : Nat} [NeZero R] (a b : Fin R) : a - b = 0 + a * (-1) ^ 0 + b * (-1) ^ 1 := by grind

theorem scale_one {k : Nat} {l : List Int} (hl : l.length = 2 ^ k) : tab l.length (fun i => co l i * cv 1) = tab (2 ^ k) (co l) := by
  rw [hl]
  exact tab_congr (fun i _ => by rw [cv_one]; exact kk _)
where kk {R : Nat} [NeZero R] (a : Fin R) : a * 1 = a := by grind
theorem twid_Share_ev {k : Nat} (hk : k ≤ 32) : Ev (fun n => twid_Share.f n (k : Int)) (un (sh k), 0) := by
  unfold twid_Share.f
  have c : (0 : Int) ≤ IntKind.u64.wrap (k : Int) := (U_wrap _).1
  simp -implicitDefEqProofs only [show ¬ (k : Int) < 0 by omega, show ¬ (k : Int) > 32 by omega, if_false, c, if_true, shl_u64 (show k ≤ 63 by omega)]
  have h := gold_Inv_ev (U_two_pow (n := k) (by omega))
  rw [erz_ne (two_pow_ne hk)] at h
  refine Ev.bind h ?_
  exact Ev.now _
theorem root_good_yes {a : Int} (h0 : 0 ≤ a) (h1 : a ≤ 32) : root_good.f a = some true := by
  unfold root_good.f; rw [if_pos h0, decide_eq_true h1]
theorem shr_word {k : Nat} (hk : k ≤ 32) : shr .u64 18446744069414584320 (IntKind.u64.wrap (k : Int)) = ((18446744069414584320 / 2 ^ k : Nat) : Int) := by
  unfold shr
  rw [wu64_of ⟨by omega, by omega⟩, Int.toNat_natCast, Nat.min_eq_left (by rw [show IntKind.u64.bits = 64 from rfl]; omega)]
  rw [Int.natCast_ediv]; congr 1
theorem root_root_ev {k : Nat} (hk : k ≤ 32) : Ev (fun n => root_root.f n (k : Int)) (un (rt k)) := by
  unfold root_root.f
  have c : (0 : Int) ≤ IntKind.u64.wrap (k : Int) := (U_wrap _).1
  have hp : 18446744069414584320 / 2 ^ k ≤ 18446744069414584320 := Nat.div_le_self _ _
  simp -implicitDefEqProofs only [c, if_true, shr_word hk]
  have hu : U ((18446744069414584320 / 2 ^ k : Nat) : Int) := by
    generalize 18446744069414584320 / 2 ^ k = q at *
    exact ⟨by omega, by omega⟩
  refine Ev.bind (gold_Pow_ev ⟨by omega, by omega⟩ hu) ?_
  rw [Int.toNat_natCast]
  exact Ev.now _

theorem root_Root_ev {k : Nat} (hk : k ≤ 32) : Ev (fun n => root_Root.f n (k : Int)) (un (rt k), 0) := by
  unfold root_Root.f
  rw [root_good_yes (by omega) (by omega)]
  simp -implicitDefEqProofs only [Option.bind_some, if_true]
  exact Ev.bind (root_root_ev hk) (Ev.now _)
theorem root_Back_ev {k : Nat} (hk : k ≤ 32) : Ev (fun n => root_Back.f n (k : Int)) (un (inv (rt k)), 0) := by
  unfold root_Back.f
  rw [root_good_yes (by omega) (by omega)]
  simp -implicitDefEqProofs only [Option.bind_some, if_true]
  refine Ev.bind (root_root_ev hk) ?_
  have h := gold_Inv_ev (U_un (rt k))
  rw [cv_un, erz_ne (rt_ne_zero k)] at h
  refine Ev.bind h ?_
  exact Ev.now _
theorem twid_Root_ev {k : Nat} (hk : k ≤ 32) {d : Int} (hd : d = 0 ∨ d = 1) : Ev (fun n => twid_Root.f n (k : Int) d) (un (dr k d), 0) := by
  unfold twid_Root.f
  simp -implicitDefEqProofs only [show ¬ (k : Int) < 0 by omega, if_false, decide_eq_false (show ¬ (k : Int) > 32 by omega)]
  refine Ev.step (fun n => twid_Root.j0.eq_2 ..) ?_
  rcases hd with rfl | rfl
  · simp -implicitDefEqProofs only [show ¬ (false = true) by decide, if_false, if_true]
    refine Ev.bind (root_Root_ev hk) ?_
    rw [dr_fwd]; exact Ev.now _
  · simp -implicitDefEqProofs only [show ¬ (false = true) by decide, if_false, if_true, show ¬ (1 : Int) = 0 by omega]
    refine Ev.bind (root_Back_ev hk) ?_
    rw [dr_inv]; exact Ev.now _
theorem root_Powers_ev {w : Int} (hw : U w) {n : Nat} (hn : n ≤ 1048576) : Ev (fun k => root_Powers.f k w (n : Int)) (tab n (fun i => cv w ^ i), 0) := by
  unfold root_Powers.f
  have c1 : ¬ ((n : Int) < 0) := by omega
  have c2 : decide ((n : Int) > 1048576) = false := decide_eq_false (by omega)
  simp -implicitDefEqProofs only [c1, c2, if_false]
  refine Ev.step (fun k => root_Powers.j0.eq_2 ..) ?_
  have c3 : (0 : Int) ≤ (n : Int) := by omega
  have c4 : n ≤ 35184372088832 := by omega
  simp -implicitDefEqProofs only [c3, c4, Int.toNat_natCast, if_true, if_false, show ¬ (false = true) by decide, Option.bind_some, replicate_tab, tab_length]
  have e0 : tab n (fun _ => (0 : F)) = tab n (fun j => if j < 0 then cv w ^ j else 0) := tab_congr (fun j hj => by rw [if_neg (by omega)])
  have e1 : (1 : Int) = un (cv w ^ 0) := by rw [show cv w ^ 0 = 1 by grind, un_one]
  rw [e0, e1]
  refine Ev_loop n (fun k i => root_Powers.l0 k w (tab n (fun j => if j < i then cv w ^ j else 0)) (un (cv w ^ i)) (n : Int) (i : Int)) ?_ (fun i hi ih => ?_) 0 (Nat.zero_le _)
  · refine Ev.step (fun k => root_Powers.l0.eq_2 ..) ?_
    simp -implicitDefEqProofs only [Int.lt_irrefl, if_false]
    have e : tab n (fun j => if j < n then cv w ^ j else 0) = tab n (fun i => cv w ^ i) := tab_congr (fun j hj => by rw [if_pos hj])
    rw [e]
    exact Ev.now _
  · refine Ev.step (fun k => root_Powers.l0.eq_2 ..) ?_
    have c1 : (i : Int) < (n : Int) := by omega
    have c2 : (0 : Int) ≤ (i : Int) := by omega
    have es : cv w ^ i * cv w = cv w ^ (i + 1) := by grind
    simp -implicitDefEqProofs only [c1, c2, tab_length, if_true, gold_Mul_eq (U_un _) hw, Option.bind_some, cv_un, Int.toNat_natCast, tab_set, es, nat64_succ (show i < 9223372036854775807 by omega)]
    have e : tab n (fun j => if j = i then cv w ^ i else if j < i then cv w ^ j else 0) = tab n (fun j => if j < i + 1 then cv w ^ j else 0) := by
      apply tab_congr
      intro j hj
      by_cases hji : j = i
      · subst hji; rw [if_pos rfl, if_pos (by omega)]
      · rw [if_neg hji]
        by_cases hh : j < i
        · rw [if_pos hh, if_pos (by omega)]
        · rw [if_neg hh, if_neg (by omega)]
    rw [e]
    exact ih
def hf (k : Nat) : Nat := max (2 ^ k / 2) 1
theorem twid_Table_ev {k : Nat} {d : Int} (hk : k ≤ 20) (hd : d = 0 ∨ d = 1) : Ev (fun n => twid_Table.f n (k : Int) d) (tab (hf k) (fun i => dr k d ^ i), 0) := by
  have hp := two_pow_lt (n := k) (m := 20) hk
  unfold twid_Table.f
  refine Ev.bind (twid_Root_ev (by omega) hd) ?_
  have c : (0 : Int) ≤ IntKind.u64.wrap (k : Int) := (U_wrap _).1
  have e : mx (((2 ^ k : Nat) : Int) / 2) 1 = ((hf k : Nat) : Int) := by unfold mx hf; omega
  simp -implicitDefEqProofs only [if_true, show ¬ (k : Int) > 20 by omega, if_false, c, shl_i64 (show k ≤ 62 by omega), e]
  refine Ev.bind (root_Powers_ev (U_un _) (by unfold hf; omega)) ?_
  rw [cv_un]
  exact Ev.now _
theorem kern4_whole_ev {k : Nat} (hk : k ≤ 20) {d : Int} (hd : d = 0 ∨ d = 1) : Ev (fun n => kern4_whole.f n (k : Int) d) (tab (2 ^ k) (fun i => dr k d ^ i)) := by
  unfold kern4_whole.f
  refine Ev.bind (twid_Table_ev hk hd) ?_
  have hp := two_pow_lt (n := k) (m := 20) hk
  have hh : hf k ≤ 2 ^ k := by unfold hf; have := Nat.two_pow_pos k; omega
  have c1 : ([] : List Int).length + (tab (hf k) (fun i => dr k d ^ i)).length < 17592186044416 := by rw [List.length_nil, tab_length]; omega
  simp -implicitDefEqProofs only [Option.bind_some, c1, if_true, List.nil_append]
  by_cases hk0 : k = 0
  · subst hk0
    simp -implicitDefEqProofs only [show ¬ ((0 : Nat) : Int) > 0 by omega, if_false]
    exact Ev.now _
  · simp -implicitDefEqProofs only [show (k : Int) > 0 by omega, if_true]
    have hfk : hf k = 2 ^ (k - 1) := by
      unfold hf
      obtain ⟨m, rfl⟩ : ∃ m, k = m + 1 := ⟨k - 1, by omega⟩
      have := Nat.two_pow_pos m
      rw [Nat.pow_succ, Nat.mul_div_cancel _ (by omega), show m + 1 - 1 = m by omega]
      omega
    have h2 : 2 ^ k = 2 ^ (k - 1) + 2 ^ (k - 1) := by
      obtain ⟨m, rfl⟩ : ∃ m, k = m + 1 := ⟨k - 1, by omega⟩
      rw [Nat.pow_succ, show m + 1 - 1 = m by omega]; omega
    rw [hfk]
    have hq : 2 ^ (k - 1) ≤ 2 ^ 20 := by omega
    have half := dr_half4 (k := k) (by omega) (by omega) hd
    rw [h2]
    obtain ⟨n, hn⟩ : ∃ n, n = 2 ^ (k - 1) := ⟨_, rfl⟩
    rw [← hn] at hq half ⊢
    have key := Ev_loop n (fun m i => kern4_whole.l0 m (tab (n + i) (fun i => dr k d ^ i)) (tab n (fun i => dr k d ^ i)) ((tab n (fun i => dr k d ^ i)).length : Int) (i : Int)) (r := tab (n + n) (fun i => dr k d ^ i)) ?_ ?_ 0 (Nat.zero_le _)
    · exact key
    · refine Ev.step (fun m => kern4_whole.l0.eq_2 ..) ?_
      simp -implicitDefEqProofs only [tab_length, show ¬ (n : Int) < (n : Int) by omega, if_false]
      exact Ev.now _
    · intro i hi ih
      refine Ev.step (fun m => kern4_whole.l0.eq_2 ..) ?_
      have e1 : gold_Neg.f (un (dr k d ^ i)) = some (un (dr k d ^ (n + i))) := by
        rw [gold_Neg_eq (U_un _), cv_un, pow_add', half, k3]
      have e3 : tab (n + i) (fun i => dr k d ^ i) ++ [un (dr k d ^ (n + i))] = tab (n + (i + 1)) (fun i => dr k d ^ i) := (tab_succ (n + i) _).symm
      simp -implicitDefEqProofs only [tab_length, show (i : Int) < (n : Int) by omega, show (0 : Int) ≤ (i : Int) by omega, if_true, rd_tab hi, e1, Option.bind_some, show n + i < 17592186044416 by omega, e3, nat64_succ (show i < 9223372036854775807 by omega)]
      simp -implicitDefEqProofs only [tab_length] at ih
      exact ih
where k3 {R : Nat} [NeZero R] (a : Fin R) : -1 * a = -a := by grind

theorem kern4_Unit_ev {d : Int} (hd : d = 0 ∨ d = 1) : Ev (fun n => kern4_Unit.f n d) (un (dr 2 d), 0) := by
  unfold kern4_Unit.f
  refine Ev.bind (twid_Root_ev (k := 2) (by omega) hd) ?_
  exact Ev.now _
theorem conv_times_ev {n : Nat} {a b : List Int} (ha : UL a) (hb : UL b) (hl : a.length = n) (hl2 : b.length = n) (hn : n < 4294967296) : Ev (fun k => conv_times.f k a b) (tab n (fun i => co a i * co b i)) := by
  unfold conv_times.f
  have d1 : (0 : Int) ≤ (a.length : Int) := by omega
  have d2 : a.length ≤ 35184372088832 := by omega
  simp -implicitDefEqProofs only [d1, d2, if_true, Int.toNat_natCast, replicate_tab, Option.bind_some, tab_length]
  rw [hl]
  have e0 : tab n (fun _ => (0 : F)) = tab n (fun j => if j < 0 then co a j * co b j else 0) := tab_congr (fun j hj => by rw [if_neg (by omega)])
  rw [e0]
  refine Ev_loop n (fun k i => conv_times.l0 k a b (tab n (fun j => if j < i then co a j * co b j else 0)) (n : Int) (i : Int)) ?_ (fun i hi ih => ?_) 0 (Nat.zero_le _)
  · refine Ev.step (fun k => conv_times.l0.eq_2 ..) ?_
    simp -implicitDefEqProofs only [Int.lt_irrefl, if_false]
    rw [tab_congr (g := fun i => co a i * co b i) (fun i hi => by rw [if_pos hi])]
    exact Ev.now _
  · refine Ev.step (fun k => conv_times.l0.eq_2 ..) ?_
    have c1 : (i : Int) < (n : Int) := by omega
    have c2 : (0 : Int) ≤ (i : Int) := by omega
    have c3 : (i : Int) < (a.length : Int) := by omega
    have c4 : (i : Int) < (b.length : Int) := by omega
    simp -implicitDefEqProofs only [c1, c2, c3, c4, tab_length, if_true, gold_Mul_eq (U_rd ha _) (U_rd hb _), Option.bind_some, cv_rd, Int.toNat_natCast, tab_set, nat64_succ (show i < 9223372036854775807 by omega)]
    have e : tab n (fun j => if j = i then co a i * co b i else if j < i then co a j * co b j else 0) = tab n (fun j => if j < i + 1 then co a j * co b j else 0) := by
      apply tab_congr
      intro j hj
      by_cases hji : j = i
      · subst hji; rw [if_pos rfl, if_pos (by omega)]
      · rw [if_neg hji]
        by_cases hh : j < i
        · rw [if_pos hh, if_pos (by omega)]
        · rw [if_neg hh, if_neg (by omega)]
    rw [e]
    exact ih

theorem hk_kern_ev {k : Nat} (hk : k ≤ 20) : Ev (fun n => hk_kern n (k : Int)) (tab (2 ^ k) (fun i => dr k 0 ^ i), tab (2 ^ k) (fun i => dr k 1 ^ i), un (dr 2 0), un (dr 2 1), un (sh k)) := by
  unfold hk_kern
  refine Ev.bind (twid_Table_ev (by omega) (.inl rfl)) ?_
  refine Ev.bind (twid_Table_ev (by omega) (.inr rfl)) ?_
  refine Ev.bind (kern4_whole_ev hk (.inl rfl)) ?_
  refine Ev.bind (kern4_whole_ev hk (.inr rfl)) ?_
  refine Ev.bind (kern4_Unit_ev (.inl rfl)) ?_
  refine Ev.bind (kern4_Unit_ev (.inr rfl)) ?_
  refine Ev.bind (twid_Share_ev (by omega)) ?_
  exact Ev.now _
theorem hk_fwd_ev {l : List Int} (h : UL l) {k : Nat} (hk : k ≤ 20) {d : Int} (hd : d = 0 ∨ d = 1) (hl : l.length = 2 ^ k) : Ev (fun n => hk_fwd n k (tab (2 ^ k) (fun i => dr k d ^ i)) (un (dr 2 d)) l) (tab (2 ^ k) (fun j => dft (2 ^ k) (dr k d) (co l) j)) := by
  have hp := two_pow_lt (n := k) (m := 20) hk
  unfold hk_fwd
  refine Ev.bind (twid_Scale_ev h (by omega) U_one) ?_
  rw [scale_one hl]
  have c : (tab (2 ^ k) (co l)).length = l.length ∧ l.length = 2 ^ k ∧ (tab (2 ^ k) (fun i => dr k d ^ i)).length = 2 ^ k := ⟨by rw [tab_length, hl], hl, tab_length _ _⟩
  simp -implicitDefEqProofs only [if_pos c, hk_k4r_eq hk hd (co l)]
  exact Ev.now _
theorem hk_fwd_tf {l : List Int} (h : UL l) {k : Nat} (hk : k ≤ 20) (hl : l.length = 2 ^ k) : Ev (fun n => hk_fwd n k (tab (2 ^ k) (fun i => dr k 0 ^ i)) (un (dr 2 0)) l) (tab (2 ^ k) (tf k 0 (co l))) := by
  have e := hk_fwd_ev h hk (d := 0) (.inl rfl) hl
  rw [tab_congr (fun j _ => (tf_fwd k (co l) j).symm)] at e
  exact e
theorem hk_bwd_ev {l : List Int} (h : UL l) {k : Nat} (hk : k ≤ 20) (hl : l.length = 2 ^ k) : Ev (fun n => hk_bwd n k (tab (2 ^ k) (fun i => dr k 1 ^ i)) (un (dr 2 1)) (un (sh k)) l) (tab (2 ^ k) (tf k 1 (co l))) := by
  have hp := two_pow_lt (n := k) (m := 20) hk
  unfold hk_bwd
  refine Ev.bind (hk_fwd_ev h hk (.inr rfl) hl) ?_
  refine Ev.bind (twid_Scale_ev (UL_tab _ _) (by rw [tab_length]; omega) (U_un (sh k))) ?_
  have e2 : tab (tab (2 ^ k) (fun j => dft (2 ^ k) (dr k 1) (co l) j)).length (fun i => co (tab (2 ^ k) (fun j => dft (2 ^ k) (dr k 1) (co l) j)) i * cv (un (sh k))) = tab (2 ^ k) (tf k 1 (co l)) := by
    rw [tab_length]
    refine tab_congr (fun p hp => ?_)
    rw [co_tab_lt hp, cv_un]
    exact (if_pos rfl).symm
  rw [e2]
  have c : (tab (2 ^ k) (tf k 1 (co l))).length = (tab (2 ^ k) (fun j => dft (2 ^ k) (dr k 1) (co l) j)).length := by rw [tab_length, tab_length]
  simp -implicitDefEqProofs only [if_pos c]
  exact Ev.now _
theorem conv_cyclic_ev {a b : List Int} (ha : UL a) (hb : UL b) {k : Nat} (hk : k ≤ 20) (hl : a.length = 2 ^ k) (hl2 : b.length = 2 ^ k) : Ev (fun n => conv_cyclic.f n a b (k : Int)) (tab (2 ^ k) (wrp (2 ^ k) 1 (co a) (co b))) := by
  have hp := two_pow_lt (n := k) (m := 20) hk
  unfold conv_cyclic.f
  have c : (0 : Int) ≤ (k : Int) ∧ (k : Int) ≤ 20 ∧ a.length = 2 ^ k ∧ b.length = 2 ^ k := ⟨by omega, by omega, hl, hl2⟩
  simp -implicitDefEqProofs only [Int.toNat_natCast]
  simp -implicitDefEqProofs only [if_pos c]
  refine Ev.bind (hk_kern_ev hk) ?_
  refine Ev.bind (hk_fwd_tf ha hk hl) ?_
  refine Ev.bind (hk_fwd_tf hb hk hl2) ?_
  refine Ev.bind (conv_times_ev (n := 2 ^ k) (UL_tab _ _) (UL_tab _ _) (tab_length _ _) (tab_length _ _) (by omega)) ?_
  have e := hk_bwd_ev (l := tab (2 ^ k) (fun i => co (tab (2 ^ k) (tf k 0 (co a))) i * co (tab (2 ^ k) (tf k 0 (co b))) i)) (UL_tab _ _) hk (tab_length _ _)
  have e2 : tab (2 ^ k) (tf k 1 (co (tab (2 ^ k) (fun i => co (tab (2 ^ k) (tf k 0 (co a))) i * co (tab (2 ^ k) (tf k 0 (co b))) i)))) = tab (2 ^ k) (wrp (2 ^ k) 1 (co a) (co b)) := by
    refine tab_congr (fun j hj => ?_)
    rw [← wrp_tf (by omega) (co a) (co b) hj]
    exact tf_congr (fun i hi => by rw [co_tab_lt hi, co_tab_lt hi, co_tab_lt hi]) j
  rw [e2] at e
  exact e

theorem conv_Cyclic_ev {a b : List Int} (ha : UL a) (hb : UL b) {k : Nat} (hk : k ≤ 19) (hl : a.length = 2 ^ k) (hl2 : b.length = 2 ^ k) : Ev (fun n => conv_Cyclic.f n a b) (tab (2 ^ k) (wrp (2 ^ k) 1 (co a) (co b)), 0) := by
  unfold conv_Cyclic.f
  rw [conv_check_yes hk hl hl2]
  simp -implicitDefEqProofs only [Option.bind_some, if_true]
  refine Ev.bind (conv_cyclic_ev ha hb (by omega) hl hl2) ?_
  exact Ev.now _
theorem hk_cva_ev {p : List Int} (hp : UL p) {m N : Nat} (v : F) (hm : p.length ≤ m) (hN : p.length ≤ N) : ∀ i, i ≤ p.length → hk_cva p (tab m (hil v)) N i = some (tab N (fun s => if tn N s < i then co p (tn N s) * hil v (tn N s) else 0))
  | 0, _ => by
    unfold hk_cva
    rw [replicate_tab]
    exact congrArg some (tab_congr (fun s hs => (if_neg (by omega)).symm))
  | i + 1, hi => by
    unfold hk_cva
    rw [hk_cva_ev hp v hm hN i (by omega), Option.bind_some, rd_tab (show i < m by omega), gold_Mul_eq (U_rd hp _) (U_un _), Option.bind_some, cv_un, cv_rd, tab_set]
    refine congrArg some (tab_congr (fun s hs => ?_))
    have ei : tn N i = (N - i) % N := rfl
    rw [← ei]
    by_cases e : s = tn N i
    · have et : tn N s = i := by rw [e]; exact tn_tn (by omega)
      rw [if_pos e, et, if_pos (by omega)]
    · have et : tn N s ≠ i := fun h => e (by rw [← h]; exact (tn_tn hs).symm)
      rw [if_neg e]
      by_cases d : tn N s < i
      · rw [if_pos d, if_pos (by omega)]
      · rw [if_neg d, if_neg (by omega)]
theorem hk_cvo_ev {N m M : Nat} (f : Nat → F) (v : F) (h1 : M ≤ N) (h2 : M ≤ m) : ∀ i, i ≤ M → hk_cvo (tab N f) (tab m (hil v)) M i = some (tab M (fun j => if j < i then f j * hil v j else 0))
  | 0, _ => by
    unfold hk_cvo
    rw [replicate_tab]
    exact congrArg some (tab_congr (fun s hs => (if_neg (by omega)).symm))
  | i + 1, hi => by
    unfold hk_cvo
    rw [hk_cvo_ev f v h1 h2 i (by omega), Option.bind_some, rd_tab (show i < N by omega), rd_tab (show i < m by omega), gold_Mul_eq (U_un _) (U_un _), Option.bind_some, cv_un, cv_un, hil_state (fun j => f j * hil v j)]
theorem chirp_values_ev {p : List Int} (hp : UL p) {w v : Int} (hw : U w) (hv : U v) (h : cv v * cv w = 1) (hl : p.length ≤ 65536) {M : Nat} (hM : M ≤ 65536) : Ev (fun k => chirp_values.f k p w v (M : Int)) (tab M (fun j => ev p.length (co p) (cv w ^ j))) := by
  unfold chirp_values.f
  obtain ⟨t, ht, hsz, hE⟩ := chirp_power_ev (n := p.length + M) (by omega)
  have hp2 := Nat.pow_le_pow_right (n := 2) (by omega) ht
  have hp0 := Nat.two_pow_pos t
  have e1 : (p.length : Int) + (M : Int) = ((p.length + M : Nat) : Int) := by omega
  obtain ⟨m, hm⟩ : ∃ m : Nat, m = max p.length M := ⟨_, rfl⟩
  have e2 : mx (p.length : Int) (M : Int) = (m : Int) := by unfold mx; split <;> omega
  simp -implicitDefEqProofs only [if_pos (show p.length ≤ 65536 ∧ (0 : Int) ≤ (M : Int) ∧ (M : Int) ≤ 65536 from ⟨hl, by omega, by omega⟩), e1, e2]
  refine Ev.bind hE ?_
  refine Ev.bind (chirp_hills_ev hv (n := m) (by omega)) ?_
  refine Ev.bind (chirp_hills_ev hw (n := p.length + M) (by omega)) ?_
  obtain ⟨N, hN⟩ : ∃ N, N = 2 ^ t := ⟨_, rfl⟩
  rw [← hN] at hsz hp2 hp0 ⊢
  simp -implicitDefEqProofs only [tab_length, Int.toNat_natCast, if_pos (show (0 < (N : Int) ∧ (N : Int) ≤ 1048576 ∧ p.length ≤ N) ∧ p.length ≤ m ∧ (M : Int) ≤ (m : Int) ∧ p.length + M ≤ N from ⟨⟨by omega, by omega, by omega⟩, by omega, by omega, by omega⟩), hk_cva_ev hp (cv v) (show p.length ≤ m by omega) (show p.length ≤ N by omega) p.length (Nat.le_refl _), Option.bind_some]
  have eb : tab (p.length + M) (hil (cv w)) ++ List.replicate (N - (p.length + M)) 0 = tab N (fun i => if i < p.length + M then hil (cv w) i else 0) := by
    rw [replicate_tab, tab_append, show p.length + M + (N - (p.length + M)) = N by omega]
  rw [eb]
  have hC := conv_Cyclic_ev (a := tab N (fun s => if tn N s < p.length then co p (tn N s) * hil (cv v) (tn N s) else 0)) (b := tab N (fun i => if i < p.length + M then hil (cv w) i else 0)) (UL_tab _ _) (UL_tab _ _) ht (by rw [tab_length, hN]) (by rw [tab_length, hN])
  rw [← hN] at hC
  refine Ev.bind hC ?_
  simp -implicitDefEqProofs only [tab_length, if_pos (show (M : Int) ≤ (N : Int) by omega), Int.toNat_natCast, hk_cvo_ev _ (cv v) (show M ≤ N by omega) (show M ≤ m by omega) M (Nat.le_refl _)]
  have ef : tab M (fun j => if j < M then wrp N 1 (co (tab N (fun s => if tn N s < p.length then co p (tn N s) * hil (cv v) (tn N s) else 0))) (co (tab N (fun i => if i < p.length + M then hil (cv w) i else 0))) j * hil (cv v) j else 0) = tab M (fun j => ev p.length (co p) (cv w ^ j)) := tab_congr (fun j hj => by
    rw [if_pos hj, wrp_congr (f' := fun s => co p (tn N s) * hil (cv v) (tn N s)) (g' := fun i => if i < p.length + M then hil (cv w) i else 0) (by omega) (fun s hs => by
      rw [co_tab_lt hs]
      by_cases c : tn N s < p.length
      · rw [if_pos c]
      · rw [if_neg c, co_out (by omega)]; exact k0 _) (fun i hi => co_tab_lt hi)]
    exact chirp_sum h (row_out p) (fun t ht => if_pos ht) hsz hj)
  rw [ef]
  exact Ev.now _
where
  k0 {R : Nat} [NeZero R] (x : Fin R) : 0 = 0 * x := by grind

theorem chirp_divided_fwd (l : List Int) : Ev (fun k => chirp_divided.f k l 0) l := by
  unfold chirp_divided.f
  simp -implicitDefEqProofs only [show ¬ (0 : Int) = 1 by decide, if_false]
  exact Ev.now _
theorem chirp_divided_ev {n : Nat} (hn : n ≤ 65536) (f : Nat → F) {d : Int} (hd : d = 0 ∨ d = 1) : Ev (fun k => chirp_divided.f k (tab n f) d) (tab n (fun j => if d = 1 then f j * inv (cv (n : Int)) else f j)) := by
  rcases hd with rfl | rfl
  · rw [tab_congr (g := f) (fun j _ => if_neg (by decide))]
    exact chirp_divided_fwd _
  · rw [tab_congr (g := fun j => f j * inv (cv (n : Int))) (fun j _ => if_pos rfl)]
    unfold chirp_divided.f
    simp -implicitDefEqProofs only [if_true, tab_length, wu64_of (U_nat (show n < 18446744073709551616 by omega))]
    refine Ev.bind (gold_Inv_ev (U_nat (by omega))) ?_
    have e0 : tab n f = tab n (fun j => if j < 0 then f j * inv (cv (n : Int)) else f j) := tab_congr (fun j _ => (if_neg (by omega)).symm)
    have key : Ev (fun k => chirp_divided.l0 k (tab n (fun j => if j < 0 then f j * inv (cv (n : Int)) else f j)) (un (inv (cv (n : Int)))) (n : Int) ((0 : Nat) : Int)) (tab n (fun j => f j * inv (cv (n : Int)))) := by
      refine Ev_loop n (fun k i => chirp_divided.l0 k (tab n (fun j => if j < i then f j * inv (cv (n : Int)) else f j)) (un (inv (cv (n : Int)))) (n : Int) (i : Int)) ?_ (fun i hi ih => ?_) 0 (Nat.zero_le _)
      · refine Ev.step (fun k => chirp_divided.l0.eq_2 ..) ?_
        simp -implicitDefEqProofs only [Int.lt_irrefl, if_false]
        rw [tab_congr (g := fun j => f j * inv (cv (n : Int))) (fun j hj => if_pos hj)]
        exact Ev.now _
      · refine Ev.step (fun k => chirp_divided.l0.eq_2 ..) ?_
        simp -implicitDefEqProofs only [show (i : Int) < (n : Int) by omega, show (0 : Int) ≤ (i : Int) by omega, tab_length, if_true, rd_tab hi, gold_Mul_eq (U_un _) (U_un _), Option.bind_some, cv_un, Int.toNat_natCast, nat64_succ (show i < 9223372036854775807 by omega), Nat.lt_irrefl, if_false, tab_set]
        have e : tab n (fun j => if j = i then f i * inv (cv (n : Int)) else if j < i then f j * inv (cv (n : Int)) else f j) = tab n (fun j => if j < i + 1 then f j * inv (cv (n : Int)) else f j) := tab_congr (fun j hj => by
          by_cases c : j = i
          · rw [if_pos c, if_pos (by omega), c]
          · rw [if_neg c]
            by_cases d : j < i
            · rw [if_pos d, if_pos (by omega)]
            · rw [if_neg d, if_neg (by omega)])
        rw [e]
        exact ih
    rw [← e0] at key
    exact key

theorem chirp_Chirp_fwd {l : List Int} (hl : UL l) (h : 1 ≤ l.length ∧ l.length ≤ 65536 ∧ 18446744069414584320 % l.length = 0) : Ev (fun k => chirp_Chirp.f k l 0) (tab l.length (fun j => ev l.length (co l) (rtn l.length ^ j)), 0) := by
  unfold chirp_Chirp.f
  refine Ev.bind (chirp_Root_ev h (.inl rfl)) ?_
  simp -implicitDefEqProofs only [if_true]
  refine Ev.bind (gold_Inv_ev (U_un _)) ?_
  have e : rtd l.length 0 = rtn l.length := if_neg (by decide)
  rw [e, cv_un]
  refine Ev.bind (chirp_values_ev hl (U_un _) (U_un _) (by rw [cv_un, cv_un]; exact inv_mul (rtn_ne _)) (by omega) (M := l.length) (by omega)) ?_
  rw [cv_un]
  refine Ev.bind (chirp_divided_fwd _) ?_
  exact Ev.now _
theorem rtd_rz (n : Nat) (d : Int) : rtd n d = rz n d := by
  unfold rtd rz rtn; rfl
theorem chirp_Chirp_ev {l : List Int} (hl : UL l) (h : 1 ≤ l.length ∧ l.length ≤ 65536 ∧ 18446744069414584320 % l.length = 0) {d : Int} (hd : d = 0 ∨ d = 1) : Ev (fun k => chirp_Chirp.f k l d) (tab l.length (tfn l.length d (co l)), 0) := by
  unfold chirp_Chirp.f
  refine Ev.bind (chirp_Root_ev h hd) ?_
  simp -implicitDefEqProofs only [if_true]
  refine Ev.bind (gold_Inv_ev (U_un _)) ?_
  rw [cv_un]
  refine Ev.bind (chirp_values_ev hl (U_un _) (U_un _) (by rw [cv_un, cv_un]; exact inv_mul (by rw [rtd_rz]; exact rz_ne _ _)) (by omega) (M := l.length) (by omega)) ?_
  rw [cv_un]
  refine Ev.bind (chirp_divided_ev (by omega) _ hd) ?_
  rw [rtd_rz]
  exact Ev.now _
theorem chirp_Chirp_len {l : List Int} {d : Int} (h : ¬ (1 ≤ l.length ∧ l.length ≤ 65536 ∧ 18446744069414584320 % l.length = 0)) : Ev (fun k => chirp_Chirp.f k l d) ([], 4) := by
  unfold chirp_Chirp.f
  refine Ev.bind (chirp_Root_len (by rw [goes_nat]; exact h)) ?_
  simp -implicitDefEqProofs only [show ¬ (4 : Int) = 0 by decide, if_false]
  exact Ev.now _
theorem chirp_Chirp_kind {l : List Int} {d : Int} (h : 1 ≤ l.length ∧ l.length ≤ 65536 ∧ 18446744069414584320 % l.length = 0) (hd : d < 0 ∨ 1 < d) : Ev (fun k => chirp_Chirp.f k l d) ([], 18) := by
  unfold chirp_Chirp.f
  refine Ev.bind (chirp_Root_kind (by rw [goes_nat]; exact h) hd) ?_
  simp -implicitDefEqProofs only [show ¬ (18 : Int) = 0 by decide, if_false]
  exact Ev.now _

theorem abacistlaw29_awake_ev : Ev (fun k => abacistlaw29_awake.f k) true := by
  unfold abacistlaw29_awake.f
  have hU : UL ([1, 0, 0] : List Int) := UL_cons U_one (UL_cons ⟨by omega, by omega⟩ (UL_cons ⟨by omega, by omega⟩ UL_nil))
  have hC := chirp_Chirp_fwd (l := [1, 0, 0]) hU ⟨by decide, by decide, by decide +kernel⟩
  have e : tab ([1, 0, 0] : List Int).length (fun j => ev ([1, 0, 0] : List Int).length (co [1, 0, 0]) (rtn ([1, 0, 0] : List Int).length ^ j)) = [1, 1, 1] := by
    have h1 : ∀ x : F, ev 3 (co [1, 0, 0]) x = 1 := fun x => by
      show Sm 3 (fun i => co [1, 0, 0] i * x ^ i) = 1
      rw [Sm_succ, Sm_succ, Sm_succ, Sm_zero]
      have c0 : co [1, 0, 0] 0 = 1 := cv_one
      have c1 : co [1, 0, 0] 1 = 0 := cv_zero
      have c2 : co [1, 0, 0] 2 = 0 := cv_zero
      rw [c0, c1, c2]
      exact k0 x
    show tab 3 (fun j => ev 3 (co [1, 0, 0]) (rtn 3 ^ j)) = _
    rw [tab_congr (g := fun _ => 1) (fun j _ => h1 _), tab_succ, tab_succ, tab_succ, tab_nil, un_one]; rfl
  rw [e] at hC
  refine Ev.bind hC ?_
  simp -implicitDefEqProofs only [chirp_Goes_eq, Option.bind_some, decide_eq_true (show (1 : Int) ≤ 3 ∧ (3 : Int) ≤ 65536 ∧ (18446744069414584320 : Int) % 3 = 0 by decide +kernel), decide_eq_true (show (1 : Int) ≤ 15 ∧ (15 : Int) ≤ 65536 ∧ (18446744069414584320 : Int) % 15 = 0 by decide +kernel), decide_eq_true (show (1 : Int) ≤ 257 ∧ (257 : Int) ≤ 65536 ∧ (18446744069414584320 : Int) % 257 = 0 by decide +kernel), decide_eq_false (show ¬ ((1 : Int) ≤ 7 ∧ (7 : Int) ≤ 65536 ∧ (18446744069414584320 : Int) % 7 = 0) by decide +kernel), decide_eq_false (show ¬ ((1 : Int) ≤ 9 ∧ (9 : Int) ≤ 65536 ∧ (18446744069414584320 : Int) % 9 = 0) by decide +kernel), if_true, Bool.false_eq_true, if_false]
  have hS := abacistref04_Same_ev ([1, 1, 1] : List Int) [1, 1, 1] (by decide)
  rw [decide_eq_true rfl] at hS
  refine Ev.bind hS ?_
  exact Ev.now _
where
  k0 {R : Nat} [NeZero R] (x : Fin R) : 0 + 1 * x ^ 0 + 0 * x ^ 1 + 0 * x ^ 2 = (1 : Fin R) := by grind

theorem abacistref29_Goes_eq (n : Int) : abacistref29_Goes.f n = some (decide (1 ≤ n ∧ n ≤ 65536 ∧ 18446744069414584320 % n = 0)) := chirp_Goes_eq n

/-- The product of numbers. -/
def pro : List Nat → Nat
  | [] => 1
  | p :: t => p * pro t
theorem pro_append (a b : List Nat) : pro (a ++ b) = pro a * pro b := by
  induction a with
  | nil => exact (Nat.one_mul _).symm
  | cons p t ih => show p * pro (t ++ b) = p * pro t * pro b; rw [ih, Nat.mul_assoc]
theorem pro_replicate (c p : Nat) : pro (List.replicate c p) = p ^ c := by
  induction c with
  | zero => rfl
  | succ c ih => rw [List.replicate_succ, Nat.pow_succ, Nat.mul_comm]; show p * _ = _; rw [ih]
/-- Whole numbers as Go's. -/
def ints (l : List Nat) : List Int := l.map fun (p : Nat) => (p : Int)
theorem ints_append (a b : List Nat) : ints (a ++ b) = ints a ++ ints b := List.map_append
theorem ints_length (a : List Nat) : (ints a).length = a.length := List.length_map _
theorem hk_pull_ev {p : Nat} (hp : 2 ≤ p) (hp2 : p ≤ 65536) : ∀ (m : Nat) (n : Nat) (o : List Nat), n < m → 0 < n → n ≤ 65536 → 2 ^ o.length * n ≤ 65536 → ∃ c q, n = p ^ c * q ∧ q % p ≠ 0 ∧ 0 < q ∧ Ev (fun k => hk_pull (p : Int) k (n : Int) (ints o)) ((q : Int), ints (o ++ List.replicate c p)) ∧ 2 ^ (o.length + c) * q ≤ 65536
  | 0, n, o, h, _, _, _ => absurd h (Nat.not_lt_zero _)
  | m + 1, n, o, h, h0, h1, h2 => by
    have et : Int.tmod (n : Int) (p : Int) = ((n % p : Nat) : Int) := by rw [Int.tmod_eq_emod_of_nonneg (by omega)]; exact (Int.natCast_emod _ _).symm
    have ed : Int.tdiv (n : Int) (p : Int) = ((n / p : Nat) : Int) := by rw [Int.tdiv_eq_ediv_of_nonneg (by omega)]; exact (Int.natCast_ediv _ _).symm
    have hdle := Nat.div_le_self n p
    by_cases c : n % p = 0
    · have hn : n = p * (n / p) := by have := Nat.div_add_mod n p; omega
      have hq0 : 0 < n / p := by
        rcases Nat.eq_zero_or_pos (n / p) with e | e
        · rw [e] at hn; omega
        · exact e
      have hlt : n / p < n := Nat.div_lt_self h0 hp
      have hl : o.length ≤ 16 := by
        rcases Nat.lt_or_ge 16 o.length with d | d
        · have h3 := Nat.pow_le_pow_right (n := 2) (by omega) d
          have h4 : 2 ^ o.length ≤ 2 ^ o.length * n := Nat.le_mul_of_pos_right _ h0
          have : (2 : Nat) ^ (16 + 1) = 131072 := by decide
          omega
        · exact d
      have h5 : 2 ^ (o ++ [p]).length * (n / p) ≤ 65536 := by
        rw [List.length_append, List.length_singleton, Nat.pow_succ, Nat.mul_assoc]
        refine Nat.le_trans (Nat.mul_le_mul_left _ ?_) h2
        have := Nat.mul_le_mul_right (n / p) hp
        omega
      obtain ⟨c1, q, e1, e2, e3, hE, e4⟩ := hk_pull_ev hp hp2 m (n / p) (o ++ [p]) (by omega) hq0 (by omega) h5
      refine ⟨c1 + 1, q, ?_, e2, e3, ?_, ?_⟩
      · have : n = p * (p ^ c1 * q) := by rw [← e1]; exact hn
        rw [this, Nat.pow_succ]; grind
      · refine Ev.step (fun k => hk_pull.eq_2 ..) ?_
        have hw : wrap64 ((n / p : Nat) : Int) = ((n / p : Nat) : Int) := wrap64_of (by omega) (by omega)
        simp -implicitDefEqProofs only [et, ed, c, if_true, hw, show ((0 : Nat) : Int) = 0 from rfl, ints_length, show o.length < 4096 by omega]
        rw [show ints o ++ [(p : Int)] = ints (o ++ [p]) from (ints_append o [p]).symm]
        rw [show o ++ List.replicate (c1 + 1) p = o ++ [p] ++ List.replicate c1 p by rw [List.replicate_succ, List.append_assoc]; rfl]
        exact hE
      · rw [List.length_append, List.length_singleton] at e4
        rw [show o.length + (c1 + 1) = o.length + 1 + c1 by omega]
        exact e4
    · refine ⟨0, n, by rw [Nat.pow_zero, Nat.one_mul], c, h0, ?_, h2⟩
      refine Ev.step (fun k => hk_pull.eq_2 ..) ?_
      simp -implicitDefEqProofs only [et, show ¬ ((n % p : Nat) : Int) = 0 by omega, if_false]
      rw [List.replicate_zero, List.append_nil]
      exact Ev.now _
theorem no_other_all : ∀ a, a < 257 → ∀ b, b < 256 → (18446744069414584320 % (256 * a + b) != 0 || (256 * a + b) % 2 == 0 || (256 * a + b) % 3 == 0 || (256 * a + b) % 5 == 0 || (256 * a + b) % 17 == 0 || (256 * a + b) % 257 == 0 || decide (65536 < 256 * a + b) || 256 * a + b == 1) = true := by decide +kernel
theorem no_other {n : Nat} (h : 18446744069414584320 % n = 0) (h2 : n % 2 ≠ 0) (h3 : n % 3 ≠ 0) (h5 : n % 5 ≠ 0) (h17 : n % 17 ≠ 0) (h257 : n % 257 ≠ 0) (hn : n ≤ 65536) : n = 1 := by
  have := no_other_all (n / 256) (by omega) (n % 256) (by omega)
  rw [Nat.div_add_mod] at this
  simpa [h, h2, h3, h5, h17, h257, Nat.not_lt.2 hn] using this
/-- What the primes are: in their order, none but these. -/
def isPrimes (fs : List Nat) : Prop := ∃ c2 c3 c5 c17 c257, fs = List.replicate c2 2 ++ List.replicate c3 3 ++ List.replicate c5 5 ++ List.replicate c17 17 ++ List.replicate c257 257
theorem mod_of_part {a b c : Nat} (h : a % (b * c) = 0) : a % c = 0 := Nat.mod_eq_zero_of_dvd (Nat.dvd_trans (Nat.dvd_mul_left c b) (Nat.dvd_of_mod_eq_zero h))
theorem chirp_Factors_ev {n : Nat} (h : 1 ≤ n ∧ n ≤ 65536 ∧ 18446744069414584320 % n = 0) : ∃ fs, isPrimes fs ∧ pro fs = n ∧ fs.length ≤ 16 ∧ Ev (fun k => chirp_Factors.f k (n : Int)) (ints fs) := by
  obtain ⟨h1, h2, h3⟩ := h
  obtain ⟨a, n1, e1, f1, g1, E1, b1⟩ := hk_pull_ev (p := 2) (by decide) (by decide) (n + 1) n [] (by omega) (by omega) h2 (by simpa using h2)
  have k1 : n1 ≤ 65536 := Nat.le_trans (Nat.le_mul_of_pos_left _ (Nat.two_pow_pos _)) b1
  obtain ⟨b, n2, e2, f2, g2, E2, b2⟩ := hk_pull_ev (p := 3) (by decide) (by decide) (n1 + 1) n1 ([] ++ List.replicate a 2) (by omega) g1 k1 (by rw [List.length_append, List.length_replicate]; exact b1)
  have k2 : n2 ≤ 65536 := Nat.le_trans (Nat.le_mul_of_pos_left _ (Nat.two_pow_pos _)) b2
  obtain ⟨c, n3, e3, f3, g3, E3, b3⟩ := hk_pull_ev (p := 5) (by decide) (by decide) (n2 + 1) n2 ([] ++ List.replicate a 2 ++ List.replicate b 3) (by omega) g2 k2 (by rw [List.length_append, List.length_replicate]; exact b2)
  have k3 : n3 ≤ 65536 := Nat.le_trans (Nat.le_mul_of_pos_left _ (Nat.two_pow_pos _)) b3
  obtain ⟨d, n4, e4, f4, g4, E4, b4⟩ := hk_pull_ev (p := 17) (by decide) (by decide) (n3 + 1) n3 ([] ++ List.replicate a 2 ++ List.replicate b 3 ++ List.replicate c 5) (by omega) g3 k3 (by rw [List.length_append, List.length_replicate]; exact b3)
  have k4 : n4 ≤ 65536 := Nat.le_trans (Nat.le_mul_of_pos_left _ (Nat.two_pow_pos _)) b4
  obtain ⟨e, n5, e5, f5, g5, E5, b5⟩ := hk_pull_ev (p := 257) (by decide) (by decide) (n4 + 1) n4 ([] ++ List.replicate a 2 ++ List.replicate b 3 ++ List.replicate c 5 ++ List.replicate d 17) (by omega) g4 k4 (by rw [List.length_append, List.length_replicate]; exact b4)
  have k5 : n5 ≤ 65536 := Nat.le_trans (Nat.le_mul_of_pos_left _ (Nat.two_pow_pos _)) b5
  have r1 : 18446744069414584320 % n1 = 0 := by rw [e1] at h3; exact mod_of_part h3
  have r2 : 18446744069414584320 % n2 = 0 := by rw [e2] at r1; exact mod_of_part r1
  have r3 : 18446744069414584320 % n3 = 0 := by rw [e3] at r2; exact mod_of_part r2
  have r4 : 18446744069414584320 % n4 = 0 := by rw [e4] at r3; exact mod_of_part r3
  have r5 : 18446744069414584320 % n5 = 0 := by rw [e5] at r4; exact mod_of_part r4
  have up : ∀ {p q s : Nat}, s % p = 0 → (q * s) % p = 0 := fun {p q s} h => Nat.mod_eq_zero_of_dvd (Nat.dvd_trans (Nat.dvd_of_mod_eq_zero h) (Nat.dvd_mul_left s q))
  have s5 : n5 % 17 ≠ 0 := fun h => f4 (by rw [e5]; exact up h)
  have s4 : n4 % 5 ≠ 0 := fun h => f3 (by rw [e4]; exact up h)
  have t4 : n5 % 5 ≠ 0 := fun h => s4 (by rw [e5]; exact up h)
  have s3 : n3 % 3 ≠ 0 := fun h => f2 (by rw [e3]; exact up h)
  have t3 : n4 % 3 ≠ 0 := fun h => s3 (by rw [e4]; exact up h)
  have v3 : n5 % 3 ≠ 0 := fun h => t3 (by rw [e5]; exact up h)
  have s2 : n2 % 2 ≠ 0 := fun h => f1 (by rw [e2]; exact up h)
  have t2 : n3 % 2 ≠ 0 := fun h => s2 (by rw [e3]; exact up h)
  have v2 : n4 % 2 ≠ 0 := fun h => t2 (by rw [e4]; exact up h)
  have x2 : n5 % 2 ≠ 0 := fun h => v2 (by rw [e5]; exact up h)
  have one : n5 = 1 := no_other r5 x2 v3 t4 s5 f5 k5
  refine ⟨List.replicate a 2 ++ List.replicate b 3 ++ List.replicate c 5 ++ List.replicate d 17 ++ List.replicate e 257, ⟨a, b, c, d, e, rfl⟩, ?_, ?_, ?_⟩
  · rw [pro_append, pro_append, pro_append, pro_append, pro_replicate, pro_replicate, pro_replicate, pro_replicate, pro_replicate, e1, e2, e3, e4, e5, one]
    grind
  · rw [one, Nat.mul_one] at b5
    simp only [List.nil_append, List.length_append, List.length_replicate] at b5 ⊢
    rcases Nat.lt_or_ge 16 (a + b + c + d + e) with q | q
    · have := Nat.pow_le_pow_right (n := 2) (by omega) q
      have : (2 : Nat) ^ (16 + 1) = 131072 := by decide
      omega
    · exact q
  · unfold chirp_Factors.f
    rw [chirp_Goes_eq, decide_eq_true ((goes_nat n).2 ⟨h1, h2, h3⟩)]
    simp -implicitDefEqProofs only [Option.bind_some, if_true]
    show Ev (fun k => hk_facs k [((2 : Nat) : Int), ((3 : Nat) : Int), ((5 : Nat) : Int), ((17 : Nat) : Int), ((257 : Nat) : Int)] (n : Int) (ints [])) _
    simp -implicitDefEqProofs only [hk_facs]
    refine Ev.bind E1 ?_
    refine Ev.bind E2 ?_
    refine Ev.bind E3 ?_
    refine Ev.bind E4 ?_
    refine Ev.bind E5 ?_
    rw [List.nil_append]
    exact Ev.now _
theorem isPrimes_pos {fs : List Nat} (h : isPrimes fs) : ∀ p ∈ fs, 0 < p := by
  obtain ⟨a, b, c, d, e, rfl⟩ := h
  intro p hp
  simp only [List.mem_append, List.mem_replicate] at hp
  omega

/-- Every p-th word, from place i on: so many. -/
def pth (l : List Int) (p i m : Nat) : List Int := (List.range m).map fun s => l.getD (i + p * s) 0
theorem pth_length (l : List Int) (p i m : Nat) : (pth l p i m).length = m := by simp [pth]
theorem pth_succ (l : List Int) (p i m : Nat) : pth l p i (m + 1) = pth l p i m ++ [l.getD (i + p * m) 0] := by simp [pth, List.range_succ]
theorem pth_getD (l : List Int) (p i m s : Nat) (h : s < m) : (pth l p i m).getD s 0 = l.getD (i + p * s) 0 := by simp [pth, h]
theorem pth_co (l : List Int) (p i m s : Nat) (h : s < m) : co (pth l p i m) s = co l (i + p * s) := by unfold co; rw [pth_getD l p i m s h]
theorem pth_UL {l : List Int} (h : UL l) (p i m : Nat) : UL (pth l p i m) := by
  intro x hx
  unfold pth at hx
  obtain ⟨s, _, rfl⟩ := List.mem_map.1 hx
  exact U_getD h _
/-- Rows, one of each index. -/
def rws {α : Type} (p : Nat) (g : Nat → α) : List α := (List.range p).map g
theorem rws_length {α : Type} (p : Nat) (g : Nat → α) : (rws p g).length = p := by simp [rws]
theorem rws_congr {α : Type} {p : Nat} {g h : Nat → α} (e : ∀ i, i < p → g i = h i) : rws p g = rws p h := List.map_congr_left (fun i hi => e i (List.mem_range.1 hi))
theorem rws_getD {α : Type} {p i : Nat} (g : Nat → α) (d : α) (h : i < p) : (rws p g).getD i d = g i := by simp [rws, h]
theorem rws_set {α : Type} (p : Nat) (g : Nat → α) (i : Nat) (v : α) : (rws p g).set i v = rws p (fun j => if j = i then v else g j) := by
  apply List.ext_getElem?
  intro j
  unfold rws
  rw [List.getElem?_set, List.getElem?_map, List.getElem?_map]
  by_cases hj : j < p
  · rw [List.getElem?_range hj]
    by_cases e : i = j
    · subst e
      rw [if_pos rfl, if_pos (by simpa using hj)]; simp
    · rw [if_neg e]; simp [show ¬ j = i from fun h => e h.symm]
  · rw [List.getElem?_eq_none (by simpa using hj)]
    split
    · rename_i e
      subst e
      rw [if_neg (by simpa using hj)]; rfl
    · rfl
theorem rws_replicate {α : Type} (p : Nat) (a : α) : List.replicate p a = rws p (fun _ => a) := by
  apply List.ext_getElem?
  intro j
  unfold rws
  by_cases hj : j < p
  · simp [hj]
  · simp [hj]
theorem rdl_rws {p i : Nat} (g : Nat → List Int) (h : i < p) : rd_L1 (rws p g) (i : Int) = g i := by
  unfold rd_L1
  rw [Int.toNat_natCast]
  exact rws_getD g _ h
/-- How many of the first t places are i, i + p, .. -/
def cnt (p t i : Nat) : Nat := (t + (p - 1 - i)) / p
theorem cnt_zero {p i : Nat} (h : i < p) : cnt p 0 i = 0 := Nat.div_eq_of_lt (by omega)
theorem cnt_step {p t i : Nat} (h : i < p) : cnt p (t + 1) i = if i = t % p then cnt p t i + 1 else cnt p t i := by
  have hp : 0 < p := by omega
  have ht := Nat.div_add_mod t p
  have hr := Nat.mod_lt t hp
  unfold cnt
  generalize t % p = r at *
  generalize t / p = q at *
  subst ht
  have d0 : ∀ x, x < p → (p * q + x) / p = q := fun x hx => by rw [Nat.mul_add_div hp, Nat.div_eq_of_lt hx, Nat.add_zero]
  have d1 : ∀ x, x < p → (p * q + (p + x)) / p = q + 1 := fun x hx => by rw [Nat.mul_add_div hp, Nat.add_div_left x hp, Nat.div_eq_of_lt hx]
  by_cases c : i = r
  · rw [if_pos c, show p * q + r + (p - 1 - i) = p * q + (p - 1) by omega, show p * q + r + 1 + (p - 1 - i) = p * q + (p + 0) by omega, d1 0 hp, d0 (p - 1) (by omega)]
  · rw [if_neg c]
    rcases Nat.lt_or_ge r i with g | g
    · rw [show p * q + r + 1 + (p - 1 - i) = p * q + (r + 1 + (p - 1 - i)) by omega, show p * q + r + (p - 1 - i) = p * q + (r + (p - 1 - i)) by omega, d0 (r + 1 + (p - 1 - i)) (by omega), d0 (r + (p - 1 - i)) (by omega)]
    · rw [show p * q + r + 1 + (p - 1 - i) = p * q + (p + (r - i)) by omega, show p * q + r + (p - 1 - i) = p * q + (p + (r - i - 1)) by omega, d1 (r - i) (by omega), d1 (r - i - 1) (by omega)]
theorem cnt_at {p t : Nat} (hp : 0 < p) : t % p + p * cnt p t (t % p) = t := by
  have ht := Nat.div_add_mod t p
  have hr := Nat.mod_lt t hp
  unfold cnt
  generalize t % p = r at *
  generalize t / p = q at *
  subst ht
  rw [show p * q + r + (p - 1 - r) = p * q + (p - 1) by omega, Nat.mul_add_div hp, Nat.div_eq_of_lt (show p - 1 < p by omega), Nat.add_zero]
  omega
theorem cnt_full {p m i : Nat} (h : i < p) : cnt p (p * m) i = m := by
  unfold cnt
  rw [Nat.mul_add_div (by omega), Nat.div_eq_of_lt (by omega), Nat.add_zero]
theorem cnt_le {p t i : Nat} (h : i < p) : cnt p t i ≤ t := by
  have hp : 0 < p := by omega
  unfold cnt
  have : (t + (p - 1 - i)) / p < t + 1 := by
    rw [Nat.div_lt_iff_lt_mul hp]
    have := Nat.mul_le_mul_left (t + 1) (show 1 ≤ p from hp)
    have e : (t + 1) * p = t * p + p := Nat.succ_mul t p
    have := Nat.mul_le_mul_left t (show 1 ≤ p from hp)
    omega
  omega
theorem chirp_parts_ev {l : List Int} {p m : Nat} (hp : 0 < p) (hp2 : p ≤ 65536) (hl : l.length = p * m) (hl2 : l.length ≤ 65536) : Ev (fun k => chirp_parts.f k l (p : Int)) (rws p (fun i => pth l p i m)) := by
  unfold chirp_parts.f
  simp -implicitDefEqProofs only [show (0 : Int) ≤ (p : Int) by omega, if_true, Int.toNat_natCast, show p ≤ 11728124029610 by omega, rws_replicate]
  have e0 : rws p (fun _ => ([] : List Int)) = rws p (fun i => pth l p i (cnt p 0 i)) := rws_congr (fun i hi => by rw [cnt_zero hi]; rfl)
  rw [e0]
  refine Ev_loop l.length (fun k t => chirp_parts.l0 k (p : Int) (rws p (fun i => pth l p i (cnt p t i))) l (l.length : Int) (t : Int)) ?_ (fun t ht ih => ?_) 0 (Nat.zero_le _)
  · refine Ev.step (fun k => chirp_parts.l0.eq_2 ..) ?_
    simp -implicitDefEqProofs only [Int.lt_irrefl, if_false]
    rw [hl, rws_congr (h := fun i => pth l p i m) (fun i hi => by rw [cnt_full hi])]
    exact Ev.now _
  · refine Ev.step (fun k => chirp_parts.l0.eq_2 ..) ?_
    have et : Int.tmod (t : Int) (p : Int) = ((t % p : Nat) : Int) := by rw [Int.tmod_eq_emod_of_nonneg (by omega)]; exact (Int.natCast_emod _ _).symm
    have hr := Nat.mod_lt t hp
    have hc := cnt_le (t := t) hr
    simp -implicitDefEqProofs only [show (t : Int) < (l.length : Int) by omega, if_true, show (0 : Int) ≤ (t : Int) by omega, show ¬ (p : Int) = 0 by omega, if_false, et, show (0 : Int) ≤ ((t % p : Nat) : Int) by omega, rws_length, show ((t % p : Nat) : Int) < (p : Int) by omega, rdl_rws _ hr, pth_length, show cnt p t (t % p) < 17592186044416 by omega, Int.toNat_natCast, rws_set, nat64_succ (show t < 9223372036854775807 by omega)]
    have e : rws p (fun j => if j = t % p then pth l p (t % p) (cnt p t (t % p)) ++ [rd l (t : Int)] else pth l p j (cnt p t j)) = rws p (fun i => pth l p i (cnt p (t + 1) i)) := rws_congr (fun j hj => by
      rw [cnt_step hj]
      by_cases c : j = t % p
      · rw [if_pos c, if_pos c, c, pth_succ, cnt_at hp, rd_nat]
      · rw [if_neg c, if_neg c])
    rw [e]
    exact ih

theorem chirp_mixed_ev : ∀ (fs : List Nat) (l : List Int) (w : F), (∀ p ∈ fs, 0 < p) → fs.length ≤ 4096 → UL l → l.length = pro fs → l.length ≤ 65536 → w ^ l.length = 1 → Ev (fun k => chirp_mixed.f k l (un w) (ints fs)) (tab l.length (dft l.length w (co l)))
  | [], l, w, _, _, hu, hl, _, hw => by
    refine Ev.step (fun k => chirp_mixed.f.eq_2 ..) ?_
    have hl : l.length = 1 := hl
    have e0 : rd l 0 = rd l ((0 : Nat) : Int) := rfl
    simp -implicitDefEqProofs only [ints, List.map_nil, List.length_nil, show ((0 : Nat) : Int) = 0 from rfl, if_true, hl, show (0 : Int) < ((1 : Nat) : Int) by decide, gold_Of_eq (U_rd hu 0), Option.bind_some]
    rw [e0, cv_rd]
    have e1 : tab 1 (dft 1 w (co l)) = [un (co l 0)] := by
      rw [tab_succ, tab_nil]
      show [un (Sm 1 (fun i => co l i * (w ^ 0) ^ i))] = _
      rw [Sm_succ, Sm_zero, k1]
    rw [e1]
    exact Ev.now _
  | p :: fs, l, w, hfs, hfl, hu, hl, hl2, hw => by
    have hp : 0 < p := hfs p List.mem_cons_self
    obtain ⟨m, hm⟩ : ∃ m, m = pro fs := ⟨_, rfl⟩
    obtain ⟨n, hN⟩ : ∃ n, n = l.length := ⟨_, rfl⟩
    have hlen : l.length = p * m := by rw [hl, hm]; rfl
    have hnm : n = p * m := by rw [hN, hlen]
    have hm0 : 0 < m := by
      rw [hm]
      have h := fun q hq => hfs q (List.mem_cons_of_mem p hq)
      clear hl hm hlen hfs hfl
      induction fs with
      | nil => exact Nat.one_pos
      | cons q t ih => exact Nat.mul_pos (h q List.mem_cons_self) (ih (fun r hr => h r (List.mem_cons_of_mem _ hr)))
    have hpn : p ≤ n := by rw [hnm]; exact Nat.le_mul_of_pos_right _ hm0
    have hmn : m ≤ n := by rw [hnm]; exact Nat.le_mul_of_pos_left _ hp
    rw [← hN] at hl2 hw
    have hwp : (w ^ p) ^ m = 1 := by rw [← pow_mul', ← hnm]; exact hw
    have hU : U (p : Int) := U_nat (by omega)
    have hfl2 : fs.length < 4096 := hfl
    have hil : (ints (p :: fs)).length = fs.length + 1 := ints_length _
    have hrd : rd (ints (p :: fs)) 0 = (p : Int) := rfl
    have hdr : (ints (p :: fs)).drop 1 = ints fs := rfl
    obtain ⟨H, hH⟩ : ∃ H : Nat → List Int, H = fun i => tab m (dft m (w ^ p) (co (pth l p i m))) := ⟨_, rfl⟩
    have second : Ev (fun k => chirp_mixed.l1 k (un w) (p : Int) (rws p H) (tab n (fun s => if s < 0 then dft n w (co l) s else 0)) (un (w ^ 0)) (n : Int) ((0 : Nat) : Int)) (tab n (dft n w (co l))) := by
      refine Ev_loop n (fun k j => chirp_mixed.l1 k (un w) (p : Int) (rws p H) (tab n (fun s => if s < j then dft n w (co l) s else 0)) (un (w ^ j)) (n : Int) (j : Int)) ?_ (fun j hj ih => ?_) 0 (Nat.zero_le _)
      · refine Ev.step (fun k => chirp_mixed.l1.eq_2 ..) ?_
        simp -implicitDefEqProofs only [Int.lt_irrefl, if_false]
        rw [tab_congr (g := dft n w (co l)) (fun s hs => if_pos hs)]
        exact Ev.now _
      · refine Ev.step (fun k => chirp_mixed.l1.eq_2 ..) ?_
        simp -implicitDefEqProofs only [show (j : Int) < (n : Int) by omega, if_true, len64 (show p < 9223372036854775807 by omega)]
        obtain ⟨g, hg⟩ : ∃ g : Nat → F, g = fun i => dft m (w ^ p) (co (pth l p i m)) (j % m) := ⟨_, rfl⟩
        have hgs : hn p g (w ^ j) 0 = dft n w (co l) j := by
          rw [hn_zero, hnm, dft_parts (by rw [← hnm]; exact hw), hg]
          refine Sm_congr (fun i hi => ?_)
          exact congrArg (· * (w ^ j) ^ i) (dft_congr (fun s hs => pth_co l p i m s hs) _)
        rw [show (0 : Int) = un (hn p g (w ^ j) p) by rw [hn_top, un_zero]]
        refine Ev_down p (fun k i => chirp_mixed.l2 k (un w) (p : Int) (rws p H) (tab n (fun s => if s < j then dft n w (co l) s else 0)) (un (w ^ j)) (j : Int) (un (hn p g (w ^ j) i)) ((i : Int) - 1) (n : Int) (j : Int)) ?_ (fun i hi ih2 => ?_)
        · refine Ev.step (fun k => chirp_mixed.l2.eq_2 ..) ?_
          have es : w ^ j * w = w ^ (j + 1) := k2 w j
          simp -implicitDefEqProofs only [show ¬ (((0 : Nat) : Int) - 1 ≥ 0) by omega, if_false, show (0 : Int) ≤ (j : Int) by omega, if_true, tab_length, show (j : Int) < (n : Int) by omega, gold_Mul_eq (U_un _) (U_un _), Option.bind_some, cv_un, es, hgs, Int.toNat_natCast, nat64_succ (show j < 9223372036854775807 by omega), hil_state]
          exact ih
        · refine Ev.step (fun k => chirp_mixed.l2.eq_2 ..) ?_
          have hr := Nat.mod_lt j hm0
          have et : Int.tmod (j : Int) (m : Int) = ((j % m : Nat) : Int) := by rw [Int.tmod_eq_emod_of_nonneg (by omega)]; exact (Int.natCast_emod _ _).symm
          have eH : rd (H i) ((j % m : Nat) : Int) = un (g i) := by rw [hH, hg]; exact rd_tab hr
          have lH : (H i).length = m := by rw [hH]; exact tab_length _ _
          simp -implicitDefEqProofs only [down_at, show (i : Int) ≥ 0 by omega, if_true, gold_Mul_eq (U_un _) (U_un _), Option.bind_some, cv_un, show (0 : Int) ≤ (i : Int) by omega, rws_length, show (i : Int) < (p : Int) by omega, rdl_rws H hi, lH, show ¬ (m : Int) = 0 by omega, if_false, et, show (0 : Int) ≤ ((j % m : Nat) : Int) by omega, show ((j % m : Nat) : Int) < (m : Int) by omega, eH, gold_Add_eq (U_un _) (U_un _), ← hn_step _ _ hi, down_next (show i < 9223372036854775807 by omega)]
          exact ih2
    have e0 : tab n (fun s => if s < 0 then dft n w (co l) s else 0) = List.replicate n 0 := by
      rw [replicate_tab]
      exact tab_congr (fun s _ => if_neg (by omega))
    have e1 : un (w ^ 0) = 1 := by rw [show w ^ 0 = 1 from k3 w, un_one]
    rw [e0, e1] at second
    refine Ev.step (fun k => chirp_mixed.f.eq_2 ..) ?_
    simp -implicitDefEqProofs only [hil, show ¬ ((fs.length + 1 : Nat) : Int) = 0 by omega, if_false, show (0 : Int) < ((fs.length + 1 : Nat) : Int) by omega, if_true, hrd]
    refine Ev.bind (chirp_parts_ev hp (by omega) hlen (by omega)) ?_
    rw [rws_length, ← hN]
    have ea : rws p (fun i => pth l p i m) = rws p (fun i => if i < 0 then H i else pth l p i m) := rws_congr (fun i _ => (if_neg (by omega)).symm)
    rw [ea]
    refine Ev_loop p (fun k t => chirp_mixed.l0 k l (un w) (ints (p :: fs)) (p : Int) (rws p (fun i => if i < t then H i else pth l p i m)) (p : Int) (t : Int)) ?_ (fun t ht ih => ?_) 0 (Nat.zero_le _)
    · refine Ev.step (fun k => chirp_mixed.l0.eq_2 ..) ?_
      simp -implicitDefEqProofs only [Int.lt_irrefl, if_false, ← hN, show (0 : Int) ≤ (n : Int) by omega, if_true, Int.toNat_natCast, show n ≤ 35184372088832 by omega, Option.bind_some, List.length_replicate]
      rw [rws_congr (h := H) (fun i hi => if_pos hi)]
      exact second
    · refine Ev.step (fun k => chirp_mixed.l0.eq_2 ..) ?_
      simp -implicitDefEqProofs only [show (t : Int) < (p : Int) by omega, if_true, show (0 : Int) ≤ (t : Int) by omega, rws_length, wu64_of hU, hil, show (1 : Int) ≤ ((fs.length + 1 : Nat) : Int) by omega, hdr, rdl_rws _ ht, Nat.lt_irrefl, if_false]
      refine Ev.bind (gold_Pow_ev (U_un _) hU) ?_
      rw [cv_un, Int.toNat_natCast]
      refine Ev.bind (chirp_mixed_ev fs (pth l p t m) (w ^ p) (fun q hq => hfs q (List.mem_cons_of_mem p hq)) (by omega) (pth_UL hu p t m) (by rw [pth_length]; exact hm) (by rw [pth_length]; omega) (by rw [pth_length]; exact hwp)) ?_
      simp -implicitDefEqProofs only [pth_length, Int.toNat_natCast, rws_set, nat64_succ (show t < 9223372036854775807 by omega)]
      have e : rws p (fun j => if j = t then tab m (dft m (w ^ p) (co (pth l p t m))) else if j < t then H j else pth l p j m) = rws p (fun i => if i < t + 1 then H i else pth l p i m) := rws_congr (fun j hj => by
        by_cases c : j = t
        · rw [if_pos c, if_pos (by omega), c, hH]
        · rw [if_neg c]
          by_cases d : j < t
          · rw [if_pos d, if_pos (by omega)]
          · rw [if_neg d, if_neg (by omega)])
      rw [e]
      exact ih
where
  k1 {R : Nat} [NeZero R] (x w : Fin R) : 0 + x * (w ^ 0) ^ 0 = x := by grind
  k2 {R : Nat} [NeZero R] (w : Fin R) (j : Nat) : w ^ j * w = w ^ (j + 1) := by grind
  k3 {R : Nat} [NeZero R] (w : Fin R) : w ^ 0 = 1 := by grind

theorem chirp_Mixed_len {l : List Int} {d : Int} (h : ¬ (1 ≤ l.length ∧ l.length ≤ 65536 ∧ 18446744069414584320 % l.length = 0)) : Ev (fun k => chirp_Mixed.f k l d) ([], 4) := by
  unfold chirp_Mixed.f
  refine Ev.bind (chirp_Root_len (by rw [goes_nat]; exact h)) ?_
  simp -implicitDefEqProofs only [show ¬ (4 : Int) = 0 by decide, if_false]
  exact Ev.now _
theorem chirp_Mixed_kind {l : List Int} {d : Int} (h : 1 ≤ l.length ∧ l.length ≤ 65536 ∧ 18446744069414584320 % l.length = 0) (hd : d < 0 ∨ 1 < d) : Ev (fun k => chirp_Mixed.f k l d) ([], 18) := by
  unfold chirp_Mixed.f
  refine Ev.bind (chirp_Root_kind (by rw [goes_nat]; exact h) hd) ?_
  simp -implicitDefEqProofs only [show ¬ (18 : Int) = 0 by decide, if_false]
  exact Ev.now _
theorem chirp_Mixed_ev {l : List Int} (hl : UL l) (h : 1 ≤ l.length ∧ l.length ≤ 65536 ∧ 18446744069414584320 % l.length = 0) {d : Int} (hd : d = 0 ∨ d = 1) : Ev (fun k => chirp_Mixed.f k l d) (tab l.length (tfn l.length d (co l)), 0) := by
  unfold chirp_Mixed.f
  refine Ev.bind (chirp_Root_ev h hd) ?_
  simp -implicitDefEqProofs only [if_true]
  obtain ⟨fs, h1, h2, h3, hE⟩ := chirp_Factors_ev h
  refine Ev.bind hE ?_
  rw [rtd_rz]
  refine Ev.bind (chirp_mixed_ev fs l (rz l.length d) (isPrimes_pos h1) (by omega) hl h2.symm h.2.1 (rz_full h.2.2 d)) ?_
  refine Ev.bind (chirp_divided_ev (by omega) _ hd) ?_
  exact Ev.now _

theorem poly_At_ev {l : List Int} (h : UL l) (hl : l.length < 4294967296) {x : Int} (hx : U x) : Ev (fun k => poly_At.f k l x) (un (ev l.length (co l) (cv x))) := by
  unfold poly_At.f
  rw [down_next (show l.length < 9223372036854775807 by omega), ← hn_zero]
  rw [show (0 : Int) = un (hn l.length (co l) (cv x) l.length) by rw [hn_top, un_zero]]
  refine Ev_down l.length (fun k i => poly_At.l0 k l x (un (hn l.length (co l) (cv x) i)) ((i : Int) - 1)) ?_ (fun i hi ih => ?_)
  · refine Ev.step (fun k => poly_At.l0.eq_2 ..) ?_
    simp -implicitDefEqProofs only [show ¬ (((0 : Nat) : Int) - 1 ≥ 0) by omega, if_false]
    exact Ev.now _
  · refine Ev.step (fun k => poly_At.l0.eq_2 ..) ?_
    have c1 : (i : Int) ≥ 0 := by omega
    have c2 : (i : Int) < (l.length : Int) := by omega
    simp -implicitDefEqProofs only [down_at, c1, c2, if_true, gold_Mul_eq (U_un _) hx, gold_Add_eq (U_un _) (U_rd h _), Option.bind_some, cv_un, cv_rd, ← hn_step _ _ hi, down_next (show i < 9223372036854775807 by omega)]
    exact ih

theorem chirp_Slow_len {l : List Int} {d : Int} (h : ¬ (1 ≤ l.length ∧ l.length ≤ 65536 ∧ 18446744069414584320 % l.length = 0)) : Ev (fun k => chirp_Slow.f k l d) ([], 4) := by
  unfold chirp_Slow.f
  refine Ev.bind (chirp_Root_len (by rw [goes_nat]; exact h)) ?_
  simp -implicitDefEqProofs only [show ¬ (4 : Int) = 0 by decide, if_false]
  exact Ev.now _
theorem chirp_Slow_kind {l : List Int} {d : Int} (h : 1 ≤ l.length ∧ l.length ≤ 65536 ∧ 18446744069414584320 % l.length = 0) (hd : d < 0 ∨ 1 < d) : Ev (fun k => chirp_Slow.f k l d) ([], 18) := by
  unfold chirp_Slow.f
  refine Ev.bind (chirp_Root_kind (by rw [goes_nat]; exact h) hd) ?_
  simp -implicitDefEqProofs only [show ¬ (18 : Int) = 0 by decide, if_false]
  exact Ev.now _
theorem chirp_Slow_ev {l : List Int} (hl : UL l) (h : 1 ≤ l.length ∧ l.length ≤ 65536 ∧ 18446744069414584320 % l.length = 0) (hs : l.length ≤ 1024) {d : Int} (hd : d = 0 ∨ d = 1) : Ev (fun k => chirp_Slow.f k l d) (tab l.length (tfn l.length d (co l)), 0) := by
  unfold chirp_Slow.f
  refine Ev.bind (chirp_Root_ev h hd) ?_
  obtain ⟨n, hn⟩ : ∃ n, l.length = n := ⟨_, rfl⟩
  simp -implicitDefEqProofs only [if_true, hn, show ¬ (n : Int) > 1024 by omega, if_false, show (0 : Int) ≤ (n : Int) by omega, Int.toNat_natCast, show n ≤ 35184372088832 by omega, Option.bind_some, List.length_replicate]
  rw [rtd_rz]
  have key : Ev (fun k => chirp_Slow.l0 k l d (un (rz n d)) (tab n (fun j => if j < 0 then dft n (rz n d) (co l) j else 0)) (n : Int) ((0 : Nat) : Int)) (tab n (tfn n d (co l)), 0) := by
    refine Ev_loop n (fun k i => chirp_Slow.l0 k l d (un (rz n d)) (tab n (fun j => if j < i then dft n (rz n d) (co l) j else 0)) (n : Int) (i : Int)) ?_ (fun i hi ih => ?_) 0 (Nat.zero_le _)
    · refine Ev.step (fun k => chirp_Slow.l0.eq_2 ..) ?_
      simp -implicitDefEqProofs only [Int.lt_irrefl, if_false]
      rw [tab_congr (g := dft n (rz n d) (co l)) (fun j hj => if_pos hj)]
      refine Ev.bind (chirp_divided_ev (by omega) _ hd) ?_
      exact Ev.now _
    · refine Ev.step (fun k => chirp_Slow.l0.eq_2 ..) ?_
      have hu : U (i : Int) := U_nat (by omega)
      simp -implicitDefEqProofs only [show (i : Int) < (n : Int) by omega, if_true, wu64_of hu]
      refine Ev.bind (gold_Pow_ev (U_un _) hu) ?_
      refine Ev.bind (poly_At_ev hl (by omega) (U_un _)) ?_
      simp -implicitDefEqProofs only [show (0 : Int) ≤ (i : Int) by omega, if_true, tab_length, show (i : Int) < (n : Int) by omega, Int.toNat_natCast, cv_un, nat64_succ (show i < 9223372036854775807 by omega), hn]
      have e : (tab n (fun j => if j < i then dft n (rz n d) (co l) j else 0)).set i (un (ev n (co l) (rz n d ^ i))) = tab n (fun j => if j < i + 1 then dft n (rz n d) (co l) j else 0) := hil_state (dft n (rz n d) (co l)) i
      rw [e]
      exact ih
  rw [replicate_tab, tab_congr (g := fun j => if j < 0 then dft n (rz n d) (co l) j else 0) (fun j _ => (if_neg (by omega)).symm)]
  exact key

theorem abacistref02_Of_eq {a : Int} (h : 0 ≤ a) : abacistref02_Of.f a = some (un (cv a)) := by
  unfold abacistref02_Of.f
  rw [un_cv, Int.tmod_eq_emod_of_nonneg h]

theorem abacistref02_Add_eq {a b : Int} (ha : 0 ≤ a) (hb : 0 ≤ b) : abacistref02_Add.f a b = some (un (cv a + cv b)) := by
  unfold abacistref02_Add.f
  rw [abacistref02_Of_eq ha, abacistref02_Of_eq hb]
  simp only [Option.bind_some]
  have h0 := un_lo (cv a); have h1 := un_hi (cv a); have h2 := un_lo (cv b); have h3 := un_hi (cv b)
  rw [un_add]
  simp only [wu64]
  have e : (18446744069414584321 - un (cv b)) % 18446744073709551616 = 18446744069414584321 - un (cv b) := by omega
  rw [e]
  split <;> congr 1 <;> omega

theorem abacistref02_Mul_l0_ev : ∀ (m : Nat) (n : Nat) (x y : F), n < 2 ^ m → n < 18446744073709551616 → Ev (fun k => abacistref02_Mul.l0 k (un x) (n : Int) (un y)) (un (y + x * cv n))
  | 0, n, x, y, h, _ => by
    obtain rfl : n = 0 := by simpa using h
    refine Ev.step (f := fun _ => some (un y)) (fun k => ?_) ?_
    · simp only [abacistref02_Mul.l0]; rw [if_neg (by omega)]
    · have : y + x * cv ((0 : Nat) : Int) = y := by rw [show cv ((0 : Nat) : Int) = 0 from rfl]; grind
      rw [this]; exact Ev.now _
  | m + 1, n, x, y, h, hn => by
    have hm : n / 2 < 2 ^ m := by rw [Nat.pow_succ] at h; omega
    have e2 : IntKind.u64.wrap (Int.tdiv (n : Int) 2) = ((n / 2 : Nat) : Int) := by
      rw [Int.tdiv_eq_ediv_of_nonneg (by omega), wu64]; omega
    by_cases h0 : n = 0
    · subst h0
      refine Ev.step (f := fun _ => some (un y)) (fun k => ?_) ?_
      · simp only [abacistref02_Mul.l0]; rw [if_neg (by omega)]
      · have : y + x * cv ((0 : Nat) : Int) = y := by rw [show cv ((0 : Nat) : Int) = 0 from rfl]; grind
        rw [this]; exact Ev.now _
    · have em : Int.tmod (n : Int) 2 = (n : Int) % 2 := Int.tmod_eq_emod_of_nonneg (by omega)
      by_cases h1 : n % 2 = 1
      · refine Ev.step (f := fun k => abacistref02_Mul.l0 k (un (x + x)) ((n / 2 : Nat) : Int) (un (y + x))) (fun k => ?_) ?_
        · simp only [abacistref02_Mul.l0]
          rw [if_pos (by omega), em, if_pos (by omega), abacistref02_Add_eq (un_lo _) (un_lo _), abacistref02_Add_eq (un_lo _) (un_lo _), e2]
          simp only [Option.bind_some, cv_un]
        · have ih := abacistref02_Mul_l0_ev m (n / 2) (x + x) (y + x) hm (by omega)
          have e : y + x + (x + x) * cv ((n / 2 : Nat) : Int) = y + x * cv n := by
            have : (n : Int) = (1 + (((n / 2 : Nat) : Int) + ((n / 2 : Nat) : Int))) := by omega
            rw [this, cv_add, cv_add, cv_one]; grind
          rw [e] at ih; exact ih
      · refine Ev.step (f := fun k => abacistref02_Mul.l0 k (un (x + x)) ((n / 2 : Nat) : Int) (un y)) (fun k => ?_) ?_
        · simp only [abacistref02_Mul.l0]
          rw [if_pos (by omega), em, if_neg (by omega), abacistref02_Add_eq (un_lo _) (un_lo _), e2]
          simp only [Option.bind_some, cv_un]
        · have ih := abacistref02_Mul_l0_ev m (n / 2) (x + x) y hm (by omega)
          have e : y + (x + x) * cv ((n / 2 : Nat) : Int) = y + x * cv n := by
            have : (n : Int) = (((n / 2 : Nat) : Int) + ((n / 2 : Nat) : Int)) := by omega
            rw [this, cv_add]; grind
          rw [e] at ih; exact ih
theorem abacistref02_Mul_ev {a n : Int} (ha : 0 ≤ a) (hn : U n) : Ev (fun k => abacistref02_Mul.f k a n) (un (cv a * cv n)) := by
  have h := abacistref02_Mul_l0_ev 64 n.toNat (cv a) 0 (by have := hn.2; omega) (by have := hn.2; omega)
  rw [un_zero, Int.toNat_of_nonneg hn.1] at h
  have e : 0 + cv a * cv n = cv a * cv n := by grind
  rw [e] at h
  refine Ev.congr (fun k => ?_) h
  unfold abacistref02_Mul.f
  rw [abacistref02_Of_eq ha]; rfl

theorem abacistref29_Values_ev {p : List Int} (hp : UL p) {w : Int} (hw : U w) (hl : p.length < 4294967296) {n : Nat} (hn : n < 4294967296) : Ev (fun k => abacistref29_Values.f k p w (n : Int)) (tab n (fun j => ev p.length (co p) (cv w ^ j))) := by
  unfold abacistref29_Values.f
  have e0 : (1 : Int) = un (cv w ^ 0) := by rw [show cv w ^ 0 = 1 by grind, un_one]
  have e00 : ∀ x : F, (1 : Int) = un (x ^ 0) := fun x => by rw [show x ^ 0 = 1 by grind, un_one]
  rw [e0]
  refine Ev_loop n (fun k j => abacistref29_Values.l0 k p w (n : Int) (tab j (fun j => ev p.length (co p) (cv w ^ j))) (un (cv w ^ j)) (j : Int)) ?_ (fun j hj ih => ?_) 0 (Nat.zero_le _)
  · refine Ev.step (fun k => abacistref29_Values.l0.eq_2 ..) ?_
    simp -implicitDefEqProofs only [Int.lt_irrefl, if_false]
    exact Ev.now _
  · refine Ev.step (fun k => abacistref29_Values.l0.eq_2 ..) ?_
    simp -implicitDefEqProofs only [show (j : Int) < (n : Int) by omega, if_true]
    have inner : Ev (fun k => abacistref29_Values.l1 k p w (n : Int) (tab j (fun j => ev p.length (co p) (cv w ^ j))) (un (cv w ^ j)) (j : Int) (un (ev 0 (co p) (cv w ^ j))) (un ((cv w ^ j) ^ 0)) ((0 : Nat) : Int)) (tab n (fun j => ev p.length (co p) (cv w ^ j))) := by
      refine Ev_loop p.length (fun k i => abacistref29_Values.l1 k p w (n : Int) (tab j (fun j => ev p.length (co p) (cv w ^ j))) (un (cv w ^ j)) (j : Int) (un (ev i (co p) (cv w ^ j))) (un ((cv w ^ j) ^ i)) (i : Int)) ?_ (fun i hi ih2 => ?_) 0 (Nat.zero_le _)
      · refine Ev.step (fun k => abacistref29_Values.l1.eq_2 ..) ?_
        simp -implicitDefEqProofs only [Int.lt_irrefl, if_false, tab_length, show j < 17592186044416 by omega, if_true]
        refine Ev.bind (abacistref02_Mul_ev (un_lo _) hw) ?_
        have es : cv w ^ j * cv w = cv w ^ (j + 1) := by grind
        simp -implicitDefEqProofs only [cv_un, es, ← tab_succ, nat64_succ (show j < 9223372036854775807 by omega)]
        exact ih
      · refine Ev.step (fun k => abacistref29_Values.l1.eq_2 ..) ?_
        simp -implicitDefEqProofs only [show (i : Int) < (p.length : Int) by omega, show (0 : Int) ≤ (i : Int) by omega, if_true]
        refine Ev.bind (abacistref02_Mul_ev (U_rd hp _).1 (U_un _)) ?_
        simp -implicitDefEqProofs only [abacistref02_Add_eq (un_lo _) (un_lo _), Option.bind_some, cv_un, cv_rd]
        refine Ev.bind (abacistref02_Mul_ev (un_lo _) (U_un _)) ?_
        have es : (cv w ^ j) ^ i * cv w ^ j = (cv w ^ j) ^ (i + 1) := by grind
        have e2 : ev i (co p) (cv w ^ j) + co p i * (cv w ^ j) ^ i = ev (i + 1) (co p) (cv w ^ j) := rfl
        simp -implicitDefEqProofs only [cv_un, es, e2, nat64_succ (show i < 9223372036854775807 by omega)]
        exact ih2
    rw [← e00] at inner
    have e3 : un (ev 0 (co p) (cv w ^ j)) = 0 := un_zero
    rw [e3] at inner
    exact inner

theorem abacistref02_Pow_l0_ev : ∀ (m : Nat) (n : Nat) (x y : F), n < 2 ^ m → n < 18446744073709551616 → Ev (fun k => abacistref02_Pow.l0 k (un x) (n : Int) (un y)) (un (y * x ^ n))
  | 0, n, x, y, h, _ => by
    obtain rfl : n = 0 := by simpa using h
    refine Ev.step (f := fun _ => some (un y)) (fun k => ?_) ?_
    · simp only [abacistref02_Pow.l0]; rw [if_neg (by omega)]
    · have : y * x ^ 0 = y := by grind
      rw [this]; exact Ev.now _
  | m + 1, n, x, y, h, hn => by
    have hm : n / 2 < 2 ^ m := by rw [Nat.pow_succ] at h; omega
    have e2 : IntKind.u64.wrap (Int.tdiv (n : Int) 2) = ((n / 2 : Nat) : Int) := by
      rw [Int.tdiv_eq_ediv_of_nonneg (by omega), wu64]; omega
    by_cases h0 : n = 0
    · subst h0
      refine Ev.step (f := fun _ => some (un y)) (fun k => ?_) ?_
      · simp only [abacistref02_Pow.l0]; rw [if_neg (by omega)]
      · have : y * x ^ 0 = y := by grind
        rw [this]; exact Ev.now _
    · have em : Int.tmod (n : Int) 2 = (n : Int) % 2 := Int.tmod_eq_emod_of_nonneg (by omega)
      by_cases h1 : n % 2 = 1
      · refine Ev.step (f := fun k => (abacistref02_Mul.f k (un y) (un x)).bind fun a => (abacistref02_Mul.f k (un x) (un x)).bind fun b => abacistref02_Pow.l0 k b ((n / 2 : Nat) : Int) a) (fun k => ?_) ?_
        · simp only [abacistref02_Pow.l0]
          rw [if_pos (by omega), em, if_pos (by omega), e2]
        · refine Ev.bind (abacistref02_Mul_ev (un_lo _) (U_un _)) ?_
          refine Ev.bind (abacistref02_Mul_ev (un_lo _) (U_un _)) ?_
          rw [cv_un, cv_un]
          have ih := abacistref02_Pow_l0_ev m (n / 2) (x * x) (y * x) hm (by omega)
          have e : y * x * (x * x) ^ (n / 2) = y * x ^ n := by
            have : n = 2 * (n / 2) + 1 := by omega
            rw [show x * x = x ^ 2 by grind, ← pow_mul']
            rw [show y * x * x ^ (2 * (n / 2)) = y * x ^ (2 * (n / 2) + 1) by grind, ← this]
          rw [e] at ih; exact ih
      · refine Ev.step (f := fun k => (abacistref02_Mul.f k (un x) (un x)).bind fun b => abacistref02_Pow.l0 k b ((n / 2 : Nat) : Int) (un y)) (fun k => ?_) ?_
        · simp only [abacistref02_Pow.l0]
          rw [if_pos (by omega), em, if_neg (by omega), e2]
        · refine Ev.bind (abacistref02_Mul_ev (un_lo _) (U_un _)) ?_
          rw [cv_un]
          have ih := abacistref02_Pow_l0_ev m (n / 2) (x * x) y hm (by omega)
          have e : y * (x * x) ^ (n / 2) = y * x ^ n := by
            have : n = 2 * (n / 2) := by omega
            rw [show x * x = x ^ 2 by grind, ← pow_mul', ← this]
          rw [e] at ih; exact ih
theorem abacistref02_Pow_ev {a n : Int} (ha : 0 ≤ a) (hn : U n) : Ev (fun k => abacistref02_Pow.f k a n) (un (cv a ^ n.toNat)) := by
  have h := abacistref02_Pow_l0_ev 64 n.toNat (cv a) 1 (by have := hn.2; omega) (by have := hn.2; omega)
  rw [un_one, Int.toNat_of_nonneg hn.1] at h
  have e : 1 * cv a ^ n.toNat = cv a ^ n.toNat := by grind
  rw [e] at h
  refine Ev.congr (fun k => ?_) h
  unfold abacistref02_Pow.f
  rw [abacistref02_Of_eq ha]; rfl

theorem abacistref29_Root_ev {n : Nat} (h : 1 ≤ n ∧ n ≤ 65536 ∧ 18446744069414584320 % n = 0) {d : Int} (hd : d = 0 ∨ d = 1) : Ev (fun k => abacistref29_Root.f k (n : Int) d) (un (rz n d)) := by
  unfold abacistref29_Root.f
  obtain ⟨h1, h2, h3⟩ := h
  have hd2 : (18446744069414584320 : Int) / (n : Int) = ((18446744069414584320 / n : Nat) : Int) := rfl
  have hu : U ((18446744069414584320 / n : Nat) : Int) := U_nat (by
    have := Nat.div_le_self 18446744069414584320 n
    omega)
  have hu1 : U ((n : Int) - 1) := ⟨by omega, by omega⟩
  simp -implicitDefEqProofs only [wu64_of (U_nat (show n < 18446744073709551616 by omega)), show ¬ (n : Int) = 0 by omega, if_false, hd2, wu64_of hu, wu64_of hu1]
  refine Ev.bind (abacistref02_Pow_ev (by omega) hu) ?_
  rcases hd with rfl | rfl
  · simp -implicitDefEqProofs only [if_true]
    have e : rz n 0 = cv 7 ^ ((18446744069414584320 / n : Nat) : Int).toNat := by rw [Int.toNat_natCast]; unfold rz; rw [if_neg (by decide)]
    rw [e]
    exact Ev.now _
  · simp -implicitDefEqProofs only [show ¬ (1 : Int) = 0 by decide, if_false]
    refine Ev.bind (abacistref02_Pow_ev (un_lo _) hu1) ?_
    rw [cv_un, Int.toNat_natCast, show ((n : Int) - 1).toNat = n - 1 by omega]
    have e : rz n 1 = (cv 7 ^ (18446744069414584320 / n)) ^ (n - 1) := by
      have e1 : rz n 1 = inv (cv 7 ^ (18446744069414584320 / n)) := by unfold rz; rw [if_pos rfl]
      rw [e1]
      refine (inv_unique ?_).symm
      have e2 : (cv 7 ^ (18446744069414584320 / n)) ^ (1 + (n - 1)) = 1 := by rw [show 1 + (n - 1) = n by omega]; exact rz_fwd_full h3
      rw [pow_add'] at e2
      rw [← e2]; exact k1 _ _
    rw [e]
    exact Ev.now _
where
  k1 {R : Nat} [NeZero R] (x y : Fin R) : x * y = x ^ 1 * y := by grind

theorem abacistref29_Transform_ev {l : List Int} (hl : UL l) (h : 1 ≤ l.length ∧ l.length ≤ 65536 ∧ 18446744069414584320 % l.length = 0) {d : Int} (hd : d = 0 ∨ d = 1) : Ev (fun k => abacistref29_Transform.f k l d) (tab l.length (tfn l.length d (co l))) := by
  unfold abacistref29_Transform.f
  refine Ev.bind (abacistref29_Root_ev h hd) ?_
  obtain ⟨n, hn⟩ : ∃ n, l.length = n := ⟨_, rfl⟩
  rw [hn] at h ⊢
  refine Ev.bind (abacistref29_Values_ev hl (U_un _) (by omega) (n := n) (by omega)) ?_
  rw [cv_un, hn]
  rcases hd with rfl | rfl
  · simp -implicitDefEqProofs only [if_true]
    exact Ev.now _
  · simp -implicitDefEqProofs only [show ¬ (1 : Int) = 0 by decide, if_false, wu64_of (U_nat (show n < 18446744073709551616 by omega))]
    refine Ev.bind (abacistref02_Pow_ev (by omega) ⟨by decide, by decide⟩) ?_
    have ei : cv (n : Int) ^ (18446744069414584319 : Int).toNat = inv (cv (n : Int)) := by unfold inv; rfl
    rw [ei]
    have key : Ev (fun k => abacistref29_Transform.l0 k (tab n (fun j => if j < 0 then dft n (rz n 1) (co l) j * inv (cv (n : Int)) else dft n (rz n 1) (co l) j)) (un (inv (cv (n : Int)))) ((0 : Nat) : Int)) (tab n (tfn n 1 (co l))) := by
      refine Ev_loop n (fun k i => abacistref29_Transform.l0 k (tab n (fun j => if j < i then dft n (rz n 1) (co l) j * inv (cv (n : Int)) else dft n (rz n 1) (co l) j)) (un (inv (cv (n : Int)))) (i : Int)) ?_ (fun i hi ih => ?_) 0 (Nat.zero_le _)
      · refine Ev.step (fun k => abacistref29_Transform.l0.eq_2 ..) ?_
        simp -implicitDefEqProofs only [tab_length, Int.lt_irrefl, if_false]
        rw [tab_congr (g := tfn n 1 (co l)) (fun j hj => by rw [if_pos hj]; unfold tfn; rw [if_pos rfl])]
        exact Ev.now _
      · refine Ev.step (fun k => abacistref29_Transform.l0.eq_2 ..) ?_
        simp -implicitDefEqProofs only [tab_length, show (i : Int) < (n : Int) by omega, show (0 : Int) ≤ (i : Int) by omega, if_true, rd_tab hi, Nat.lt_irrefl, if_false]
        refine Ev.bind (abacistref02_Mul_ev (un_lo _) (U_un _)) ?_
        simp -implicitDefEqProofs only [cv_un, Int.toNat_natCast, nat64_succ (show i < 9223372036854775807 by omega), tab_set]
        have e : tab n (fun j => if j = i then dft n (rz n 1) (co l) i * inv (cv (n : Int)) else if j < i then dft n (rz n 1) (co l) j * inv (cv (n : Int)) else dft n (rz n 1) (co l) j) = tab n (fun j => if j < i + 1 then dft n (rz n 1) (co l) j * inv (cv (n : Int)) else dft n (rz n 1) (co l) j) := tab_congr (fun j hj => by
          by_cases c : j = i
          · rw [if_pos c, if_pos (by omega), c]
          · rw [if_neg c]
            by_cases d : j < i
            · rw [if_pos d, if_pos (by omega)]
            · rw [if_neg d, if_neg (by omega)])
        rw [e]
        exact ih
    have e0 : tab n (fun j => ev n (co l) (rz n 1 ^ j)) = tab n (fun j => if j < 0 then dft n (rz n 1) (co l) j * inv (cv (n : Int)) else dft n (rz n 1) (co l) j) := tab_congr (fun j _ => (if_neg (by omega)).symm)
    rw [e0]
    exact key

theorem abacistref08_Scale_ev {l : List Int} (h : UL l) (hl : l.length < 4294967296) {a : Int} (ha : U a) : Ev (fun k => abacistref08_Scale.f k l a) (tab l.length (fun i => co l i * cv a)) := by
  unfold abacistref08_Scale.f
  refine Ev_loop l.length (fun k i => abacistref08_Scale.l0 k l a (tab i (fun i => co l i * cv a)) (i : Int)) ?_ (fun i hi ih => ?_) 0 (Nat.zero_le _)
  · refine Ev.step (fun k => abacistref08_Scale.l0.eq_2 ..) ?_
    simp -implicitDefEqProofs only [Int.lt_irrefl, if_false]
    exact Ev.now _
  · refine Ev.step (fun k => abacistref08_Scale.l0.eq_2 ..) ?_
    have c1 : (i : Int) < (l.length : Int) := by omega
    have c2 : (0 : Int) ≤ (i : Int) := by omega
    simp -implicitDefEqProofs only [c1, c2, if_true]
    refine Ev.bind (abacistref02_Mul_ev (U_rd h _).1 ha) ?_
    simp -implicitDefEqProofs only [tab_length, show i < 17592186044416 by omega, if_true, cv_rd, nat64_succ (show i < 9223372036854775807 by omega)]
    rw [tab_succ] at ih
    exact ih

theorem abacistref08_Canon_ev {l : List Int} (h : UL l) (hl : l.length < 4294967296) : Ev (fun k => abacistref08_Canon.f k l) (tab l.length (co l)) := by
  unfold abacistref08_Canon.f
  refine Ev.bind (abacistref08_Scale_ev h hl U_one) ?_
  rw [tab_congr (g := co l) (fun i hi => by rw [cv_one]; exact k1 _)]
  exact Ev.now _
where
  k1 {R : Nat} [NeZero R] (x : Fin R) : x * 1 = x := by grind

end Go.Proofs.YtnmjomcpkckihaaDoor.BChirpRuns
