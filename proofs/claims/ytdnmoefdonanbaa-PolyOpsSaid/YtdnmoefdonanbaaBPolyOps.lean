/- What each function of the law PolyOps answers, in the field's own words: plain contracts over the printed functions. -/
import Derived.Test.YtdnmoefdonanbaaPPolyOpsx0
import Derived.Test.YtdnmoefdonanbaaPPolyOpsx1
import Derived.Test.YtdnmoefdonanbaaPPolyOpsx2
import Derived.Test.YtdnmoefdonanbaaPPolyOpsx3
import Derived.Test.YtdnmoefdonanbaaPPolyOpsx4
import Derived.Test.YtdnmoefdonanbaaPPolyOpsx5
import Derived.Test.YtdnmoefdonanbaaPPolyOpsx6
import Derived.Test.YtdnmoefdonanbaaPPolyOpsx7
import Derived.Test.YtdnmoefdonanbaaMPolyOps
namespace Go.Proofs.Ytdnmoefdonanbaa.BPolyOps
set_option linter.unusedVariables false
set_option linter.unusedSimpArgs false
open Go Go.RowKit Go.Proofs.Ytdnmoefdonanbaa.M Go.Proofs.Ytdnmoefdonanbaa.PPolyOps Go.Proofs.YtdnmoefdonanbaaW.PrintWords Go.Proofs.YtdnmoefdonanbaaW.PrintLast Go.Proofs.YtdnmoefdonanbaaW.PrintMore
def U (a : Int) : Prop := 0 ≤ a ∧ a < 18446744073709551616
theorem U_un (x : F) : U (un x) := ⟨un_lo x, by have := un_hi x; omega⟩
theorem U_of_wf {a : Int} (h : (Lit.int .u64 a).wf = true) : U a := by
  simp [Lit.wf, IntKind.min, IntKind.max, IntKind.signed, IntKind.bits] at h
  exact ⟨by omega, by omega⟩
theorem wu64 (a : Int) : IntKind.u64.wrap a = a % 18446744073709551616 := by simp [IntKind.wrap, IntKind.bits, IntKind.signed]
theorem wu64_of {a : Int} (h : U a) : IntKind.u64.wrap a = a := by rw [wu64]; have := h.1; have := h.2; omega
theorem U_wrap (a : Int) : U (IntKind.u64.wrap a) := by rw [wu64]; exact ⟨by omega, by omega⟩
theorem and_low {a : Int} (h : U a) : Go.bits .and .u64 a 4294967295 = a % 4294967296 := by
  have := bits_mask .u64 64 (by decide) (fun n h0 h1 => by rw [wu64]; omega) 32 (by decide) a h.1 (by have := h.2; omega)
  simpa using this
theorem wrap64_of {a : Int} (h0 : -9223372036854775808 ≤ a) (h1 : a < 9223372036854775808) : wrap64 a = a := by unfold wrap64; omega
/-- Rows of words. -/
def UL (l : List Int) : Prop := ∀ x ∈ l, U x
theorem UL_of_wf {l : List Int} (h : ∀ x ∈ l, (Lit.int .u64 x).wf = true) : UL l := fun x hx => U_of_wf (h x hx)
theorem U_zero : U 0 := ⟨by omega, by omega⟩
theorem U_one : U 1 := ⟨by omega, by omega⟩
theorem U_getD {l : List Int} (h : UL l) (i : Nat) : U (l.getD i 0) := by
  rw [List.getD_eq_getElem?_getD]
  by_cases hi : i < l.length
  · rw [List.getElem?_eq_getElem hi]; exact h _ (List.getElem_mem hi)
  · rw [List.getElem?_eq_none (by omega)]; exact U_zero
theorem U_rd {l : List Int} (h : UL l) (i : Int) : U (rd l i) := U_getD h _
theorem UL_tab (m : Nat) (f : Nat → F) : UL (tab m f) := by
  intro x hx
  unfold tab at hx
  obtain ⟨j, _, rfl⟩ := List.mem_map.1 hx
  exact U_un _
theorem UL_nil : UL [] := fun x hx => by cases hx
theorem rd_nat (l : List Int) (i : Nat) : rd l (i : Int) = l.getD i 0 := by unfold rd; rw [Int.toNat_natCast]
theorem cv_rd (l : List Int) (i : Nat) : cv (rd l (i : Int)) = co l i := by rw [rd_nat]; rfl
theorem rd_tab {m : Nat} {f : Nat → F} {i : Nat} (h : i < m) : rd (tab m f) (i : Int) = un (f i) := by rw [rd_nat, tab_getD m f i h]
theorem nat64_succ {i : Nat} (h : i < 9223372036854775807) : wrap64 ((i : Int) + 1) = ((i + 1 : Nat) : Int) := by unfold wrap64; omega
/-- A loop that counts up. -/
theorem Ev_loop {α : Type} {r : α} (n : Nat) (g : Nat → Nat → Option α) (last : Ev (fun k => g k n) r) (step : ∀ i, i < n → Ev (fun k => g k (i + 1)) r → Ev (fun k => g k i) r) (i : Nat) (hi : i ≤ n) : Ev (fun k => g k i) r := by
  have key : ∀ d i, i + d = n → Ev (fun k => g k i) r := by
    intro d
    induction d with
    | zero => intro i hi; obtain rfl : i = n := by omega
              exact last
    | succ d ih => intro i hi; exact step i (by omega) (ih (i + 1) (by omega))
  exact key (n - i) i (by omega)
/-- A loop that counts down. -/
theorem Ev_down {α : Type} {r : α} (n : Nat) (g : Nat → Nat → Option α) (last : Ev (fun k => g k 0) r) (step : ∀ i, i < n → Ev (fun k => g k i) r → Ev (fun k => g k (i + 1)) r) : Ev (fun k => g k n) r := by
  have key : ∀ i, i ≤ n → Ev (fun k => g k i) r := by
    intro i
    induction i with
    | zero => intro _; exact last
    | succ i ih => intro hi; exact step i (by omega) (ih (by omega))
  exact key n (Nat.le_refl n)
theorem down_at (i : Nat) : (((i + 1 : Nat) : Int) - 1) = (i : Int) := by omega
theorem down_next {i : Nat} (h : i < 9223372036854775807) : wrap64 ((i : Int) - 1) = (i : Int) - 1 := by unfold wrap64; omega
theorem U_nat {n : Nat} (h : n < 18446744073709551616) : U (n : Int) := ⟨Int.natCast_nonneg _, by omega⟩
theorem getD_take {l : List Int} {d i : Nat} (h : i < d) : (l.take d).getD i 0 = l.getD i 0 := by
  rw [List.getD_eq_getElem?_getD, List.getD_eq_getElem?_getD, List.getElem?_take, if_pos h]
theorem UL_take {l : List Int} (h : UL l) (d : Nat) : UL (l.take d) := fun x hx => h x (List.mem_of_mem_take hx)
theorem co_take {l : List Int} {d i : Nat} (h : i < d) : co (l.take d) i = co l i := by unfold co; rw [getD_take h]
theorem UL_tr (m : Nat) (f : Nat → F) : UL (tr m f) := UL_tab _ _
theorem add64 {a b : Nat} (h : a + b < 9223372036854775808) : wrap64 ((a : Int) + (b : Int)) = ((a + b : Nat) : Int) := by unfold wrap64; omega
theorem sub64 {a b : Nat} (h : b ≤ a) (h2 : a < 9223372036854775808) : wrap64 ((a : Int) - (b : Int)) = ((a - b : Nat) : Int) := by unfold wrap64; omega
theorem UL_cons {a : Int} {l : List Int} (h : U a) (hl : UL l) : UL (a :: l) := by
  intro x hx
  rcases List.mem_cons.1 hx with rfl | hx
  · exact h
  · exact hl x hx
theorem gold_Of_eq {a : Int} (h : U a) : gold_Of.f a = some (un (cv a)) := by
  unfold gold_Of.f
  rw [un_cv]
  have := h.1; have := h.2
  by_cases c : a ≥ 18446744069414584321
  · rw [if_pos c, wu64]; congr 1; omega
  · rw [if_neg c]; congr 1; omega

theorem poly_Degree_l0 {l : List Int} (h : UL l) (hl : l.length < 4294967296) : ∀ i, i ≤ l.length → Ev (fun k => poly_Degree.l0 k l ((i : Int) - 1)) ((dg i (co l) : Int) - 1) := by
  intro i
  induction i with
  | zero =>
    intro _
    refine Ev.step (fun k => poly_Degree.l0.eq_2 ..) ?_
    simp -implicitDefEqProofs only [show ¬ (((0 : Nat) : Int) - 1 ≥ 0) by omega, if_false]
    exact Ev.now _
  | succ i ih =>
    intro hi
    refine Ev.step (fun k => poly_Degree.l0.eq_2 ..) ?_
    have c1 : (i : Int) ≥ 0 := by omega
    have c2 : (i : Int) < (l.length : Int) := by omega
    rw [show dg (i + 1) (co l) = if co l i = 0 then dg i (co l) else i + 1 from rfl]
    simp -implicitDefEqProofs only [down_at, c1, c2, if_true, gold_Of_eq (U_rd h _), Option.bind_some, cv_rd, down_next (show i < 9223372036854775807 by omega)]
    by_cases c : co l i = 0
    · rw [if_pos c, c, un_zero]
      simp -implicitDefEqProofs only [if_true]
      exact ih (by omega)
    · have c' : ¬ un (co l i) = 0 := fun h => c (un_eq_zero.1 h)
      rw [if_neg c, down_at]
      simp -implicitDefEqProofs only [c', if_false]
      exact Ev.now _
theorem poly_Degree_ev {l : List Int} (h : UL l) (hl : l.length < 4294967296) : Ev (fun k => poly_Degree.f k l) ((dg l.length (co l) : Int) - 1) := by
  unfold poly_Degree.f
  rw [down_next (show l.length < 9223372036854775807 by omega)]
  exact poly_Degree_l0 h hl _ (Nat.le_refl _)

theorem poly_Trim_ev {l : List Int} (h : UL l) (hl : l.length < 4294967296) : Ev (fun k => poly_Trim.f k l) (tr l.length (co l)) := by
  unfold poly_Trim.f
  refine Ev.bind (poly_Degree_ev h hl) ?_
  have hd := dg_le l.length (co l)
  have e : wrap64 ((dg l.length (co l) : Int) - 1 + 1) = (dg l.length (co l) : Int) := by rw [wrap64_of (by omega) (by omega)]; omega
  have c1 : (0 : Int) ≤ (dg l.length (co l) : Int) := by omega
  have c2 : (dg l.length (co l) : Int) ≤ (l.length : Int) := by omega
  unfold tr
  generalize dg l.length (co l) = d at *
  have hlen : (l.take d).length = d := by rw [List.length_take]; omega
  simp -implicitDefEqProofs only [e, c1, c2, if_true, Int.toNat_natCast, hlen]
  refine Ev_loop d (fun k i => poly_Trim.l0 k (tab i (co l)) (l.take d) (d : Int) (i : Int)) ?_ (fun i hi ih => ?_) 0 (Nat.zero_le _)
  · refine Ev.step (fun k => poly_Trim.l0.eq_2 ..) ?_
    simp -implicitDefEqProofs only [Int.lt_irrefl, if_false]
    exact Ev.now _
  · refine Ev.step (fun k => poly_Trim.l0.eq_2 ..) ?_
    have c3 : (i : Int) < (d : Int) := by omega
    have c4 : (0 : Int) ≤ (i : Int) := by omega
    have c5 : i < 17592186044416 := by omega
    simp -implicitDefEqProofs only [c3, c4, c5, hlen, tab_length, if_true, gold_Of_eq (U_rd (UL_take h d) _), Option.bind_some, cv_rd, co_take hi, ← tab_succ, nat64_succ (show i < 9223372036854775807 by omega)]
    exact ih

theorem gold_Reduce_eq {hi lo : Int} (h : U hi) (h2 : U lo) : gold_Reduce.f hi lo = some (un (cv (hi * 18446744073709551616 + lo))) := by
  have e0 := h.1; have e1 := h.2; have e2 := h2.1; have e3 := h2.2
  unfold gold_Reduce.f
  rw [and_low h]
  simp only [wu64]
  have top : hi = 4294967296 * (hi / 4294967296) + hi % 4294967296 := by omega
  generalize hi / 4294967296 = t at *
  generalize hm : hi % 4294967296 = m at *
  have hm0 : 0 ≤ m := by omega
  have hm1 : m < 4294967296 := by omega
  have ht0 : 0 ≤ t := by omega
  have ht1 : t < 4294967296 := by omega
  have e : m * 4294967295 % 18446744073709551616 = m * 4294967295 := by omega
  rw [e]
  by_cases c1 : lo < t
  · rw [if_pos c1]
    have a1 : (lo - t) % 18446744073709551616 = lo - t + 18446744073709551616 := by omega
    rw [a1]
    have a2 : (lo - t + 18446744073709551616 - 4294967295) % 18446744073709551616 = lo - t + 18446744073709551616 - 4294967295 := by omega
    rw [a2]
    by_cases c2 : (lo - t + 18446744073709551616 - 4294967295 + m * 4294967295) % 18446744073709551616 < m * 4294967295
    · have c3 : (lo - t + 18446744073709551616 - 4294967295 + m * 4294967295) % 18446744073709551616 = lo - t - 4294967295 + m * 4294967295 := by omega
      have c4 : (lo - t - 4294967295 + m * 4294967295 + 4294967295) % 18446744073709551616 = lo - t + m * 4294967295 := by omega
      rw [if_pos c2, c3, c4, gold_Of_eq ⟨by omega, by omega⟩]
      simp only [Option.bind_some, Option.some.injEq, un_inj_iff]
      exact cv_of_eq (-(t * 4294967297 + m)) (by omega)
    · have c3 : (lo - t + 18446744073709551616 - 4294967295 + m * 4294967295) % 18446744073709551616 = lo - t + 18446744073709551616 - 4294967295 + m * 4294967295 := by omega
      rw [if_neg c2, c3, gold_Of_eq ⟨by omega, by omega⟩]
      simp only [Option.bind_some, Option.some.injEq, un_inj_iff]
      exact cv_of_eq (-(t * 4294967297 + m) + 1) (by omega)
  · rw [if_neg c1]
    have a1 : (lo - t) % 18446744073709551616 = lo - t := by omega
    rw [a1]
    by_cases c2 : (lo - t + m * 4294967295) % 18446744073709551616 < m * 4294967295
    · have c3 : (lo - t + m * 4294967295) % 18446744073709551616 = lo - t + m * 4294967295 - 18446744073709551616 := by omega
      have c4 : (lo - t + m * 4294967295 - 18446744073709551616 + 4294967295) % 18446744073709551616 = lo - t + m * 4294967295 - 18446744069414584321 := by omega
      rw [if_pos c2, c3, c4, gold_Of_eq ⟨by omega, by omega⟩]
      simp only [Option.bind_some, Option.some.injEq, un_inj_iff]
      exact cv_of_eq (-(t * 4294967297 + m) - 1) (by omega)
    · have c3 : (lo - t + m * 4294967295) % 18446744073709551616 = lo - t + m * 4294967295 := by omega
      rw [if_neg c2, c3, gold_Of_eq ⟨by omega, by omega⟩]
      simp only [Option.bind_some, Option.some.injEq, un_inj_iff]
      exact cv_of_eq (-(t * 4294967297 + m)) (by omega)

theorem mul64_arith (a b : Int) (ha : U a) (hb : U b) :
    IntKind.u64.wrap ((IntKind.u64.wrap ((IntKind.u64.wrap ((a / 4294967296) * (b / 4294967296))) + ((IntKind.u64.wrap ((IntKind.u64.wrap ((a / 4294967296) * (b % 4294967296))) + ((IntKind.u64.wrap ((a % 4294967296) * (b % 4294967296))) / 4294967296))) / 4294967296))) + ((IntKind.u64.wrap ((Go.bits .and .u64 (IntKind.u64.wrap ((IntKind.u64.wrap ((a / 4294967296) * (b % 4294967296))) + ((IntKind.u64.wrap ((a % 4294967296) * (b % 4294967296))) / 4294967296))) 4294967295) + (IntKind.u64.wrap ((a % 4294967296) * (b / 4294967296))))) / 4294967296)) = a * b / 18446744073709551616 := by
  rw [and_low (U_wrap _)]
  simp only [wu64]
  have a0 := ha.1; have a1 := ha.2; have b0 := hb.1; have b1 := hb.2
  have ea : a = 4294967296 * (a / 4294967296) + a % 4294967296 := by omega
  have eb : b = 4294967296 * (b / 4294967296) + b % 4294967296 := by omega
  have x0 : 0 ≤ a / 4294967296 := by omega
  have x1 : a / 4294967296 ≤ 4294967295 := by omega
  have y0 : 0 ≤ b / 4294967296 := by omega
  have y1 : b / 4294967296 ≤ 4294967295 := by omega
  have u0 : 0 ≤ a % 4294967296 := by omega
  have u1 : a % 4294967296 ≤ 4294967295 := by omega
  have v0 : 0 ≤ b % 4294967296 := by omega
  have v1 : b % 4294967296 ≤ 4294967295 := by omega
  generalize a / 4294967296 = x at *
  generalize b / 4294967296 = y at *
  generalize a % 4294967296 = u at *
  generalize b % 4294967296 = v at *
  have key : ∀ p q : Int, 0 ≤ p → p ≤ 4294967295 → 0 ≤ q → q ≤ 4294967295 → 0 ≤ p * q ∧ p * q ≤ 18446744065119617025 := by
    intro p q p0 p1 q0 q1
    refine ⟨Int.mul_nonneg p0 q0, ?_⟩
    have := Int.mul_le_mul p1 q1 q0 (by omega)
    omega
  have hxy := key x y x0 x1 y0 y1
  have hxv := key x v x0 x1 v0 v1
  have huv := key u v u0 u1 v0 v1
  have huy := key u y u0 u1 y0 y1
  have eab : a * b = 18446744073709551616 * (x * y) + 4294967296 * (x * v) + 4294967296 * (u * y) + u * v := by
    rw [ea, eb]; grind
  rw [eab]
  generalize x * y = xy at *
  generalize x * v = xv at *
  generalize u * v = uv at *
  generalize u * y = uy at *
  clear ea eb eab key
  rw [Int.emod_eq_of_lt hxy.1 (by omega), Int.emod_eq_of_lt hxv.1 (by omega), Int.emod_eq_of_lt huv.1 (by omega), Int.emod_eq_of_lt huy.1 (by omega)]
  rw [Int.emod_eq_of_lt (a := xv + uv / 4294967296) (by omega) (by omega)]
  omega
theorem bits_Mul64_eq {a b : Int} (ha : U a) (hb : U b) : bits_Mul64.f a b = some (a * b / 18446744073709551616, a * b % 18446744073709551616) := by
  unfold bits_Mul64.f
  rw [and_low ha, and_low hb, mul64_arith a b ha hb, wu64]

theorem wide_Mul_eq {a b : Int} (ha : U a) (hb : U b) : wide_Mul.f a b = some (a * b / 18446744073709551616, a * b % 18446744073709551616) := by
  unfold wide_Mul.f
  rw [bits_Mul64_eq ha hb]; rfl
theorem U_wide {a b : Int} (ha : U a) (hb : U b) : U (a * b / 18446744073709551616) ∧ U (a * b % 18446744073709551616) := by
  have h0 := Int.mul_nonneg ha.1 hb.1
  have h1 : a * b ≤ 18446744073709551615 * 18446744073709551615 := Int.mul_le_mul (by have := ha.2; omega) (by have := hb.2; omega) hb.1 (by omega)
  generalize a * b = c at *
  exact ⟨⟨by omega, by omega⟩, ⟨by omega, by omega⟩⟩

theorem gold_Mul_eq {a b : Int} (ha : U a) (hb : U b) : gold_Mul.f a b = some (un (cv a * cv b)) := by
  unfold gold_Mul.f
  rw [wide_Mul_eq ha hb]
  simp only [Option.bind_some]
  rw [gold_Reduce_eq (U_wide ha hb).1 (U_wide ha hb).2]
  simp only [Option.bind_some, ← cv_mul]
  congr 3
  omega

theorem bits_Add64_eq {a b c : Int} (ha : 0 ≤ a) (hb : 0 ≤ b) (h0 : 0 ≤ c) (h1 : c ≤ 1) : bits_Add64.f a b c = some ((a + b + c) % 18446744073709551616, (a + b + c) / 18446744073709551616) := by
  unfold bits_Add64.f
  rw [if_pos ha, if_pos hb, if_pos h0, if_pos h1]

theorem wide_Add_eq {a b c d : Int} (ha : U a) (hb : U b) (hc : U c) (hd : U d) :
    wide_Add.f a b c d = some ((a * 18446744073709551616 + b + (c * 18446744073709551616 + d)) / 18446744073709551616 % 18446744073709551616, (a * 18446744073709551616 + b + (c * 18446744073709551616 + d)) % 18446744073709551616, (a * 18446744073709551616 + b + (c * 18446744073709551616 + d)) / 340282366920938463463374607431768211456) := by
  have := ha.1; have := ha.2; have := hb.1; have := hb.2; have := hc.1; have := hc.2; have := hd.1; have := hd.2
  unfold wide_Add.f
  rw [bits_Add64_eq hb.1 hd.1 (by omega) (by omega)]
  simp only [Option.bind_some]
  rw [bits_Add64_eq ha.1 hc.1 (by omega) (by omega)]
  simp only [Option.bind_some, Option.some.injEq, Prod.mk.injEq]
  exact ⟨by omega, by omega, by omega⟩

theorem gold_Add_eq {a b : Int} (ha : U a) (hb : U b) : gold_Add.f a b = some (un (cv a + cv b)) := by
  unfold gold_Add.f
  rw [gold_Of_eq ha, gold_Of_eq hb]
  simp only [Option.bind_some]
  rw [wide_Add_eq ⟨by omega, by omega⟩ (U_un _) ⟨by omega, by omega⟩ (U_un _)]
  simp only [Option.bind_some]
  have h0 := un_lo (cv a); have h1 := un_hi (cv a); have h2 := un_lo (cv b); have h3 := un_hi (cv b)
  rw [gold_Reduce_eq ⟨by omega, by omega⟩ ⟨by omega, by omega⟩]
  simp only [Option.bind_some]
  have e : cv a + cv b = cv (un (cv a) + un (cv b)) := by rw [cv_add, cv_un, cv_un]
  rw [e]
  congr 2
  exact cv_of_eq 0 (by omega)

theorem times_in {n : Nat} (f g : Nat → F) (i k j : Nat) (m : Nat) (hg : ∀ i, m ≤ i → g i = 0) : Sm i (fun i => if i ≤ j then f i * g (j - i) else 0) + (if i ≤ j ∧ j - i < m then f i * g (j - i) else 0) = Sm (i + 1) (fun i => if i ≤ j then f i * g (j - i) else 0) := by
  rw [Sm_succ]; congr 1
  by_cases h : i ≤ j
  · by_cases h2 : j - i < m
    · rw [if_pos ⟨h, h2⟩, if_pos h]
    · rw [if_neg (fun hh => h2 hh.2), if_pos h, hg _ (by omega)]; exact (mz _).symm
  · rw [if_neg (fun hh => h hh.1), if_neg h]
where mz (a : F) : a * 0 = 0 := by grind
theorem poly_times_ev {a b : List Int} (ha : UL a) (hb : UL b) (hl : a.length + b.length < 4294967296) : Ev (fun k => poly_times.f k a b) (tr (a.length + b.length) (cvl (co a) (co b))) := by
  unfold poly_times.f
  by_cases h0 : a.length = 0 ∨ b.length = 0
  · have hz : tr (a.length + b.length) (cvl (co a) (co b)) = [] := by
      apply tr_zero
      intro i _
      refine Sm_zeros (fun j _ => ?_)
      rcases h0 with h | h
      · rw [co_out (l := a) (by omega)]; exact z1 _
      · rw [co_out (l := b) (by omega)]; exact z2 _
    rw [hz]
    have last : Ev (fun k => poly_times.j0 k a b true) ([] : List Int) := by
      refine Ev.step (fun k => poly_times.j0.eq_2 ..) ?_
      simp -implicitDefEqProofs only [if_true]
      exact Ev.now _
    by_cases ha0 : a.length = 0
    · simp -implicitDefEqProofs only [show (a.length : Int) = 0 by omega, if_true]; exact last
    · have hb0 : b.length = 0 := by omega
      simp -implicitDefEqProofs only [show ¬ (a.length : Int) = 0 by omega, if_false, show ((b.length : Int) == 0) = true by rw [hb0]; rfl]
      exact last
  · have c1 : ¬ (a.length : Int) = 0 := by omega
    have c2 : ((b.length : Int) == 0) = false := by rw [beq_eq_false_iff_ne]; omega
    simp -implicitDefEqProofs only [c1, c2, if_false]
    refine Ev.step (fun k => poly_times.j0.eq_2 ..) ?_
    have e1 : wrap64 (wrap64 ((a.length : Int) + (b.length : Int)) - 1) = ((a.length + b.length - 1 : Nat) : Int) := by
      rw [add64 (by omega), wrap64_of (by omega) (by omega)]; omega
    have c3 : (0 : Int) ≤ ((a.length + b.length - 1 : Nat) : Int) := by omega
    have c4 : a.length + b.length - 1 ≤ 35184372088832 := by omega
    simp -implicitDefEqProofs only [show ¬ (false = true) by decide, if_false, e1, c3, c4, if_true, Int.toNat_natCast, replicate_tab]
    refine Ev_loop a.length (fun k i => poly_times.l0 k b (tab (a.length + b.length - 1) (fun j => Sm i (fun i => if i ≤ j then co a i * co b (j - i) else 0))) a (a.length : Int) (i : Int)) ?_ (fun i hi ihi => ?_) 0 (Nat.zero_le _)
    · refine Ev.step (fun k => poly_times.l0.eq_2 ..) ?_
      simp -implicitDefEqProofs only [Int.lt_irrefl, if_false]
      refine Ev.bind (poly_Trim_ev (UL_tab _ _) (by rw [tab_length]; omega)) ?_
      have e : tr (tab (a.length + b.length - 1) (fun j => Sm a.length (fun i => if i ≤ j then co a i * co b (j - i) else 0))).length (co (tab (a.length + b.length - 1) (fun j => Sm a.length (fun i => if i ≤ j then co a i * co b (j - i) else 0)))) = tr (a.length + b.length) (cvl (co a) (co b)) := by
        rw [tab_length, tr_ext (n := a.length + b.length - 1) (m := a.length + b.length) (by omega) (fun i h1 h2 => cvl_out (n := a.length) (m := b.length) (fun i hi => co_out hi) (fun i hi => co_out hi) (by omega))]
        exact tr_congr (fun i hi => by rw [co_tab_lt hi, times_sum])
      rw [e]; exact Ev.now _
    · refine Ev.step (fun k => poly_times.l0.eq_2 ..) ?_
      have d1 : (i : Int) < (a.length : Int) := by omega
      have d2 : (0 : Int) ≤ (i : Int) := by omega
      simp -implicitDefEqProofs only [d1, d2, if_true]
      have start : tab (a.length + b.length - 1) (fun j => Sm i (fun i => if i ≤ j then co a i * co b (j - i) else 0)) = tab (a.length + b.length - 1) (fun j => Sm i (fun i => if i ≤ j then co a i * co b (j - i) else 0) + (if i ≤ j ∧ j - i < 0 then co a i * co b (j - i) else 0)) := tab_congr (fun j _ => by rw [if_neg (by omega)]; exact (z3 _).symm)
      rw [start]
      refine Ev_loop b.length (fun k m => poly_times.l1 k b (tab (a.length + b.length - 1) (fun j => Sm i (fun i => if i ≤ j then co a i * co b (j - i) else 0) + (if i ≤ j ∧ j - i < m then co a i * co b (j - i) else 0))) (i : Int) (rd a (i : Int)) a (a.length : Int) (i : Int) b (b.length : Int) (m : Int)) ?_ (fun m hm ih => ?_) 0 (Nat.zero_le _)
      · refine Ev.step (fun k => poly_times.l1.eq_2 ..) ?_
        simp -implicitDefEqProofs only [Int.lt_irrefl, if_false, times_in (n := 0) (co a) (co b) i 0 _ b.length (fun i hi => co_out hi), nat64_succ (show i < 9223372036854775807 by omega)]
        exact ihi
      · refine Ev.step (fun k => poly_times.l1.eq_2 ..) ?_
        have d3 : (m : Int) < (b.length : Int) := by omega
        have d4 : (0 : Int) ≤ (m : Int) := by omega
        have d5 : (0 : Int) ≤ ((i + m : Nat) : Int) := by omega
        have d6 : ((i + m : Nat) : Int) < ((a.length + b.length - 1 : Nat) : Int) := by omega
        have e2 : tab (a.length + b.length - 1) (fun j => if j = i + m then Sm i (fun i' => if i' ≤ i + m then co a i' * co b (i + m - i') else 0) + (if i ≤ i + m ∧ i + m - i < m then co a i * co b (i + m - i) else 0) + co a i * co b m else Sm i (fun i => if i ≤ j then co a i * co b (j - i) else 0) + (if i ≤ j ∧ j - i < m then co a i * co b (j - i) else 0)) = tab (a.length + b.length - 1) (fun j => Sm i (fun i => if i ≤ j then co a i * co b (j - i) else 0) + (if i ≤ j ∧ j - i < m + 1 then co a i * co b (j - i) else 0)) := by
          apply tab_congr
          intro j hj
          by_cases hje : j = i + m
          · subst hje
            rw [if_pos rfl, if_neg (show ¬ (i ≤ i + m ∧ i + m - i < m) by omega), if_pos (show i ≤ i + m ∧ i + m - i < m + 1 by omega), Nat.add_sub_cancel_left]
            exact z4 _ _
          · rw [if_neg hje]
            by_cases hh : i ≤ j ∧ j - i < m
            · rw [if_pos hh, if_pos (show i ≤ j ∧ j - i < m + 1 by omega)]
            · rw [if_neg hh, if_neg (show ¬ (i ≤ j ∧ j - i < m + 1) by omega)]
        simp -implicitDefEqProofs only [d3, d4, add64 (show i + m < 9223372036854775808 by omega), d5, d6, tab_length, if_true, gold_Mul_eq (U_rd ha _) (U_rd hb _), rd_tab (show i + m < a.length + b.length - 1 by omega), gold_Add_eq (U_un _) (U_un _), Option.bind_some, cv_un, cv_rd, Int.toNat_natCast, tab_set, e2, nat64_succ (show m < 9223372036854775807 by omega)]
        exact ih
where
  z1 (a : F) : 0 * a = 0 := by grind
  z2 (a : F) : a * 0 = 0 := by grind
  z3 (a : F) : a + 0 = a := by grind
  z4 (a b : F) : a + 0 + b = a + b := by grind
  times_sum {j : Nat} : Sm a.length (fun i => if i ≤ j then co a i * co b (j - i) else 0) = cvl (co a) (co b) j := by
    have hf : ∀ i, a.length ≤ i → co a i = 0 := fun i hi => co_out hi
    unfold cvl
    by_cases h : a.length ≤ j + 1
    · rw [Sm_ext (f := fun i => co a i * co b (j - i)) h (fun i h1 h2 => by rw [hf i h1]; exact z1 _)]
      exact Sm_congr (fun i hi => if_pos (by omega))
    · rw [Sm_ext (f := fun i => if i ≤ j then co a i * co b (j - i) else 0) (show j + 1 ≤ a.length by omega) (fun i h1 h2 => if_neg (by omega))]
      exact Sm_congr (fun i hi => if_pos (by omega))

theorem gold_Neg_eq {a : Int} (h : U a) : gold_Neg.f a = some (un (- cv a)) := by
  unfold gold_Neg.f
  rw [gold_Of_eq h]
  simp only [Option.bind_some, un_neg, un_cv]
  by_cases c : a % 18446744069414584321 = 0
  · rw [if_pos c, c]; rfl
  · rw [if_neg c, wu64]; congr 1; omega

theorem times_lin {n : Nat} (z : Nat → F) (m : Nat) (hm : n + 3 ≤ m) : tr m (cvl (co (tab (n + 1) (frp n z))) (co [un (-(z n)), 1])) = tab (n + 2) (frp (n + 1) z) := by
  rw [co_tab_out (frp_out n z), co_lin]
  exact tr_frp (n + 1) m z (by omega)
theorem poly_fromRoots_ev {l : List Int} (h : UL l) (hl : l.length < 4294967290) : Ev (fun k => poly_fromRoots.f k l) (tab (l.length + 1) (frp l.length (co l))) := by
  unfold poly_fromRoots.f
  rw [show [(1 : Int)] = tab (0 + 1) (frp 0 (co l)) from tab_one.symm]
  refine Ev_loop l.length (fun k i => poly_fromRoots.l0 k (tab (i + 1) (frp i (co l))) l (l.length : Int) (i : Int)) ?_ (fun i hi ih => ?_) 0 (Nat.zero_le _)
  · refine Ev.step (fun k => poly_fromRoots.l0.eq_2 ..) ?_
    simp -implicitDefEqProofs only [Int.lt_irrefl, if_false]
    exact Ev.now _
  · refine Ev.step (fun k => poly_fromRoots.l0.eq_2 ..) ?_
    have c1 : (i : Int) < (l.length : Int) := by omega
    have c2 : (0 : Int) ≤ (i : Int) := by omega
    simp -implicitDefEqProofs only [c1, c2, if_true, gold_Neg_eq (U_rd h _), Option.bind_some, cv_rd]
    refine Ev.bind (poly_times_ev (UL_tab _ _) (UL_cons (U_un _) (UL_cons U_one UL_nil)) ?_) ?_
    · rw [tab_length]; simp only [List.length_cons, List.length_nil]; omega
    · rw [times_lin _ _ (by rw [tab_length]; simp only [List.length_cons, List.length_nil]; omega)]
      simp -implicitDefEqProofs only [nat64_succ (show i < 9223372036854775807 by omega)]
      exact ih

theorem poly_FromRoots_ev {l : List Int} (h : UL l) (hl : l.length ≤ 1000) : Ev (fun k => poly_FromRoots.f k l) (tab (l.length + 1) (frp l.length (co l)), 0) := by
  unfold poly_FromRoots.f
  simp -implicitDefEqProofs only [show ¬ (l.length : Int) > 1000 by omega, if_false]
  refine Ev.bind (poly_fromRoots_ev h (by omega)) ?_
  exact Ev.now _

theorem frp_two (z : Nat → F) : frp 2 z 0 = z 0 * z 1 ∧ frp 2 z 1 = -(z 0 + z 1) := by
  have h0 : frp 1 z 0 = - z 0 := by
    rw [show frp 1 z = cvl one (lin (z 0)) from rfl, cvl_lin_zero, show one 0 = 1 from rfl]; exact k0 _
  have h1 : frp 1 z 1 = 1 := frp_top 1 z
  rw [show frp 2 z = cvl (frp 1 z) (lin (z 1)) from rfl, cvl_lin_zero, cvl_lin_succ, h0, h1]
  exact ⟨k1 _ _, k2 _ _⟩
where
  k0 (a : F) : -(1 * a) = -a := by grind
  k1 (a b : F) : -(-a * b) = a * b := by grind
  k2 (a b : F) : -a - 1 * b = -(a + b) := by grind
theorem abacistlaw07_awake_ev : Ev (fun k => abacistlaw07_awake.f k) true := by
  unfold abacistlaw07_awake.f
  have hu : UL [1, 2] := UL_cons U_one (UL_cons ⟨by omega, by omega⟩ UL_nil)
  refine Ev.bind (poly_FromRoots_ev hu (by decide)) ?_
  have hl : (([1, 2] : List Int)).length = 2 := rfl
  rw [hl]
  have r0 : rd (tab (2 + 1) (frp 2 (co [1, 2]))) 0 = 2 := by
    have := rd_tab (m := 2 + 1) (f := frp 2 (co [1, 2])) (i := 0) (by omega)
    rw [show ((0 : Nat) : Int) = 0 from rfl] at this
    rw [this, (frp_two _).1, show co [1, 2] 0 = cv 1 from rfl, show co [1, 2] 1 = cv 2 from rfl, ← cv_mul, un_cv]; rfl
  have r1 : rd (tab (2 + 1) (frp 2 (co [1, 2]))) 1 = 18446744069414584318 := by
    have := rd_tab (m := 2 + 1) (f := frp 2 (co [1, 2])) (i := 1) (by omega)
    rw [show ((1 : Nat) : Int) = 1 from rfl] at this
    rw [this, (frp_two _).2, show co [1, 2] 0 = cv 1 from rfl, show co [1, 2] 1 = cv 2 from rfl, ← cv_add, ← cv_neg, un_cv]; rfl
  have r2 : rd (tab (2 + 1) (frp 2 (co [1, 2]))) 2 = 1 := by
    have := rd_tab (m := 2 + 1) (f := frp 2 (co [1, 2])) (i := 2) (by omega)
    rw [show ((2 : Nat) : Int) = 2 from rfl] at this
    rw [this, frp_top, un_one]
  simp -implicitDefEqProofs only [tab_length, r0, r1, r2, show (((2 + 1 : Nat) : Int)) = 3 from rfl, show (0 : Int) < 3 by omega, show (1 : Int) < 3 by omega, show (2 : Int) < 3 by omega, if_true, beq_self_eq_true]
  exact Ev.now _

theorem poly_Mul_ev {a b : List Int} (ha : UL a) (hb : UL b) (hla : a.length ≤ 4096) (hlb : b.length ≤ 4096) : Ev (fun k => poly_Mul.f k a b) (tr (a.length + b.length) (cvl (co a) (co b)), 0) := by
  unfold poly_Mul.f
  simp -implicitDefEqProofs only [show ¬ (a.length : Int) > 4096 by omega, show ¬ (b.length : Int) > 4096 by omega, if_false]
  refine Ev.bind (poly_times_ev ha hb (by omega)) ?_
  exact Ev.now _

theorem poly_Derive_ev {l : List Int} (h : UL l) (hl : l.length < 4294967296) : Ev (fun k => poly_Derive.f k l) (tr (l.length - 1) (der (co l))) := by
  unfold poly_Derive.f
  have key : Ev (fun k => poly_Derive.l0 k l (tab 0 (der (co l))) ((0 + 1 : Nat) : Int)) (tr (l.length - 1) (der (co l))) := by
    refine Ev_loop (l.length - 1) (fun k i => poly_Derive.l0 k l (tab i (der (co l))) ((i + 1 : Nat) : Int)) ?_ (fun i hi ih => ?_) 0 (Nat.zero_le _)
    · refine Ev.step (fun k => poly_Derive.l0.eq_2 ..) ?_
      have c1 : ¬ ((l.length - 1 + 1 : Nat) : Int) < (l.length : Int) := by omega
      simp -implicitDefEqProofs only [c1, if_false]
      refine Ev.bind (poly_Trim_ev (UL_tab _ _) (by rw [tab_length]; omega)) ?_
      rw [tab_length, tr_congr (g := der (co l)) (fun i hi => co_tab_lt hi)]
      exact Ev.now _
    · refine Ev.step (fun k => poly_Derive.l0.eq_2 ..) ?_
      have c1 : ((i + 1 : Nat) : Int) < (l.length : Int) := by omega
      have c2 : (0 : Int) ≤ ((i + 1 : Nat) : Int) := by omega
      have c3 : i < 17592186044416 := by omega
      have hu : U ((i + 1 : Nat) : Int) := U_nat (by omega)
      have e : un (co l (i + 1) * cv ((i + 1 : Nat) : Int)) = un (der (co l) i) := rfl
      rw [wu64_of hu]
      simp -implicitDefEqProofs only [c1, c2, c3, if_true, gold_Mul_eq (U_rd h _) hu, Option.bind_some, cv_rd, e, tab_length, ← tab_succ, nat64_succ (show i + 1 < 9223372036854775807 by omega)]
      exact ih
  exact key

theorem poly_At_ev {l : List Int} (h : UL l) (hl : l.length < 4294967296) {x : Int} (hx : U x) : Ev (fun k => poly_At.f k l x) (un (ev l.length (co l) (cv x))) := by
  unfold poly_At.f
  rw [down_next (show l.length < 9223372036854775807 by omega), ← hn_zero]
  rw [show (0 : Int) = un (hn l.length (co l) (cv x) l.length) by rw [hn_top, un_zero]]
  refine Ev_down l.length (fun k i => poly_At.l0 k l x (un (hn l.length (co l) (cv x) i)) ((i : Int) - 1)) ?_ (fun i hi ih => ?_)
  · refine Ev.step (fun k => poly_At.l0.eq_2 ..) ?_
    simp -implicitDefEqProofs only [show ¬ (((0 : Nat) : Int) - 1 ≥ 0) by omega, if_false]
    exact Ev.now _
  · refine Ev.step (fun k => poly_At.l0.eq_2 ..) ?_
    have c1 : (i : Int) ≥ 0 := by omega
    have c2 : (i : Int) < (l.length : Int) := by omega
    simp -implicitDefEqProofs only [down_at, c1, c2, if_true, gold_Mul_eq (U_un _) hx, gold_Add_eq (U_un _) (U_rd h _), Option.bind_some, cv_un, cv_rd, ← hn_step _ _ hi, down_next (show i < 9223372036854775807 by omega)]
    exact ih

def lng : List (List Int) → Nat → Nat
  | _, 0 => 0
  | ls, n + 1 => max (lng ls n) (ls.getD n []).length
theorem lng_le {ls : List (List Int)} {N : Nat} (h : ∀ l ∈ ls, l.length ≤ N) (n : Nat) : lng ls n ≤ N := by
  induction n with
  | zero => exact Nat.zero_le _
  | succ n ih =>
    have : (ls.getD n []).length ≤ N := by
      rw [List.getD_eq_getElem?_getD]
      by_cases hn : n < ls.length
      · rw [List.getElem?_eq_getElem hn]; exact h _ (List.getElem_mem hn)
      · rw [List.getElem?_eq_none (by omega)]; exact Nat.zero_le _
    show max (lng ls n) (ls.getD n []).length ≤ N
    omega
theorem rdl_nat (ls : List (List Int)) (i : Nat) : rd_L1 ls (i : Int) = ls.getD i [] := by unfold rd_L1; rw [Int.toNat_natCast]
theorem poly_longest_ev {ls : List (List Int)} (hn : ls.length < 4294967296) (hl : ∀ l ∈ ls, l.length < 4294967296) : Ev (fun k => poly_longest.f k ls) (lng ls ls.length : Int) := by
  unfold poly_longest.f
  refine Ev_loop ls.length (fun k i => poly_longest.l0 k (lng ls i : Int) ls (ls.length : Int) (i : Int)) ?_ (fun i hi ih => ?_) 0 (Nat.zero_le _)
  · refine Ev.step (fun k => poly_longest.l0.eq_2 ..) ?_
    simp -implicitDefEqProofs only [Int.lt_irrefl, if_false]
    exact Ev.now _
  · refine Ev.step (fun k => poly_longest.l0.eq_2 ..) ?_
    have c1 : (i : Int) < (ls.length : Int) := by omega
    have c2 : (0 : Int) ≤ (i : Int) := by omega
    have e : mx (lng ls i : Int) ((ls.getD i []).length : Int) = (lng ls (i + 1) : Int) := by
      show _ = ((max (lng ls i) (ls.getD i []).length : Nat) : Int)
      unfold mx; omega
    simp -implicitDefEqProofs only [c1, c2, if_true, rdl_nat, e, nat64_succ (show i < 9223372036854775807 by omega)]
    exact ih

theorem poly_coefficient_eq (l : List Int) (i : Nat) : poly_coefficient.f l (i : Int) = some (l.getD i 0) := by
  unfold poly_coefficient.f
  by_cases c : (i : Int) < (l.length : Int)
  · rw [if_pos c, if_pos (show (0 : Int) ≤ (i : Int) by omega), rd_nat]
  · rw [if_neg c, List.getD_eq_getElem?_getD, List.getElem?_eq_none (by omega)]; rfl

def sumc (ls : List (List Int)) (n i : Nat) : F := Sm n (fun m => co (ls.getD m []) i)
theorem UL_getl {ls : List (List Int)} (h : ∀ l ∈ ls, UL l) (n : Nat) : UL (ls.getD n []) := by
  rw [List.getD_eq_getElem?_getD]
  by_cases hn : n < ls.length
  · rw [List.getElem?_eq_getElem hn]; exact h _ (List.getElem_mem hn)
  · rw [List.getElem?_eq_none (by omega)]; exact UL_nil
theorem poly_Add_ev {ls : List (List Int)} (hn : ls.length < 4294967296) (hu : ∀ l ∈ ls, UL l) (hl : ∀ l ∈ ls, l.length < 4294967296) : Ev (fun k => poly_Add.f k ls) (tr (lng ls ls.length) (sumc ls ls.length)) := by
  unfold poly_Add.f
  refine Ev.bind (poly_longest_ev hn hl) ?_
  have hN : lng ls ls.length ≤ 4294967295 := lng_le (fun l hh => by have := hl l hh; omega) _
  generalize hM : lng ls ls.length = M at *
  have d1 : (0 : Int) ≤ (M : Int) := by omega
  have d2 : M ≤ 35184372088832 := by omega
  simp -implicitDefEqProofs only [d1, d2, if_true, Int.toNat_natCast, Option.bind_some, replicate_tab, tab_length]
  have e0 : tab M (fun _ => (0 : F)) = tab M (fun j => if j < 0 then sumc ls ls.length j else 0) := tab_congr (fun j hj => by rw [if_neg (by omega)])
  rw [e0]
  refine Ev_loop M (fun k i => poly_Add.l0 k ls (tab M (fun j => if j < i then sumc ls ls.length j else 0)) (M : Int) (i : Int)) ?_ (fun i hi ihi => ?_) 0 (Nat.zero_le _)
  · refine Ev.step (fun k => poly_Add.l0.eq_2 ..) ?_
    simp -implicitDefEqProofs only [Int.lt_irrefl, if_false]
    refine Ev.bind (poly_Trim_ev (UL_tab _ _) (by rw [tab_length]; omega)) ?_
    rw [tab_length, tr_congr (g := sumc ls ls.length) (fun i hi => by rw [co_tab_lt hi, if_pos hi])]
    exact Ev.now _
  · refine Ev.step (fun k => poly_Add.l0.eq_2 ..) ?_
    have c1 : (i : Int) < (M : Int) := by omega
    simp -implicitDefEqProofs only [c1, if_true]
    have start : tab M (fun j => if j < i then sumc ls ls.length j else 0) = tab M (fun j => if j = i then sumc ls 0 i else if j < i then sumc ls ls.length j else 0) := tab_congr (fun j _ => by
      by_cases e : j = i
      · rw [if_pos e, if_neg (by omega)]; rfl
      · rw [if_neg e])
    rw [start]
    refine Ev_loop ls.length (fun k m => poly_Add.l1 k ls (tab M (fun j => if j = i then sumc ls m i else if j < i then sumc ls ls.length j else 0)) (i : Int) (M : Int) (i : Int) ls (ls.length : Int) (m : Int)) ?_ (fun m hm ih => ?_) 0 (Nat.zero_le _)
    · refine Ev.step (fun k => poly_Add.l1.eq_2 ..) ?_
      have e : tab M (fun j => if j = i then sumc ls ls.length i else if j < i then sumc ls ls.length j else 0) = tab M (fun j => if j < i + 1 then sumc ls ls.length j else 0) := tab_congr (fun j _ => by
        by_cases e : j = i
        · rw [if_pos e, if_pos (by omega), e]
        · rw [if_neg e]
          by_cases h : j < i
          · rw [if_pos h, if_pos (by omega)]
          · rw [if_neg h, if_neg (by omega)])
      simp -implicitDefEqProofs only [Int.lt_irrefl, if_false, e, nat64_succ (show i < 9223372036854775807 by omega)]
      exact ihi
    · refine Ev.step (fun k => poly_Add.l1.eq_2 ..) ?_
      have c2 : (m : Int) < (ls.length : Int) := by omega
      have c3 : (0 : Int) ≤ (m : Int) := by omega
      have c4 : (0 : Int) ≤ (i : Int) := by omega
      have hr : rd (tab M (fun j => if j = i then sumc ls m i else if j < i then sumc ls ls.length j else 0)) (i : Int) = un (sumc ls m i) := by rw [rd_tab hi, if_pos rfl]
      have es : sumc ls m i + cv ((ls.getD m []).getD i 0) = sumc ls (m + 1) i := rfl
      have e : tab M (fun j => if j = i then sumc ls (m + 1) i else if j = i then sumc ls m i else if j < i then sumc ls ls.length j else 0) = tab M (fun j => if j = i then sumc ls (m + 1) i else if j < i then sumc ls ls.length j else 0) := tab_congr (fun j _ => by
        by_cases e : j = i
        · rw [if_pos e, if_pos e]
        · rw [if_neg e, if_neg e, if_neg e])
      simp -implicitDefEqProofs only [c1, c2, c3, c4, tab_length, if_true, rdl_nat, poly_coefficient_eq, hr, Option.bind_some, gold_Add_eq (U_un _) (U_getD (UL_getl hu m) i), cv_un, es, Int.toNat_natCast, tab_set, e, nat64_succ (show m < 9223372036854775807 by omega)]
      exact ih
theorem poly_Add_two {a b : List Int} (ha : UL a) (hb : UL b) (hla : a.length < 4294967296) (hlb : b.length < 4294967296) : Ev (fun k => poly_Add.f k [a, b]) (tr (max a.length b.length) (fun i => co a i + co b i)) := by
  have h := poly_Add_ev (ls := [a, b]) (by simp only [List.length_cons, List.length_nil]; omega) (by intro l hl; rcases List.mem_cons.1 hl with rfl | hl; exact ha; rcases List.mem_cons.1 hl with rfl | hl; exact hb; cases hl) (by intro l hl; rcases List.mem_cons.1 hl with rfl | hl; exact hla; rcases List.mem_cons.1 hl with rfl | hl; exact hlb; cases hl)
  have e1 : lng [a, b] [a, b].length = max a.length b.length := by
    show max (max 0 a.length) b.length = _
    omega
  have e2 : sumc [a, b] [a, b].length = fun i => co a i + co b i := by
    funext i
    show 0 + co a i + co b i = _
    exact k _ _
  rw [e1, e2] at h; exact h
where k {R : Nat} [NeZero R] (a b : Fin R) : 0 + a + b = a + b := by grind

theorem first_diff (a b : List Int) (n : Nat) : (∀ i, i < n → a.getD i 0 = b.getD i 0) ∨ ∃ m, m < n ∧ (∀ i, i < m → a.getD i 0 = b.getD i 0) ∧ a.getD m 0 ≠ b.getD m 0 := by
  induction n with
  | zero => exact .inl (fun i hi => by omega)
  | succ n ih =>
    rcases ih with h | ⟨m, hm, h1, h2⟩
    · by_cases c : a.getD n 0 = b.getD n 0
      · refine .inl (fun i hi => ?_)
        by_cases e : i = n
        · rw [e]; exact c
        · exact h i (by omega)
      · exact .inr ⟨n, by omega, h, c⟩
    · exact .inr ⟨m, by omega, h1, h2⟩
theorem same_of_getD {a b : List Int} (hl : a.length = b.length) (h : ∀ i, i < a.length → a.getD i 0 = b.getD i 0) : a = b := by
  apply List.ext_getElem hl
  intro i h1 h2
  have := h i h1
  rw [List.getD_eq_getElem?_getD, List.getD_eq_getElem?_getD, List.getElem?_eq_getElem h1, List.getElem?_eq_getElem h2] at this
  simpa using this
theorem abacistref04_Same_ev (a b : List Int) (ha : a.length < 4294967296) : Ev (fun k => abacistref04_Same.f k a b) (decide (a = b)) := by
  unfold abacistref04_Same.f
  by_cases hl : a.length = b.length
  · have c0 : (a.length : Int) = (b.length : Int) := by omega
    have round : ∀ i, i < a.length → a.getD i 0 = b.getD i 0 → ∀ r : Bool, Ev (fun k => abacistref04_Same.l0 k a b ((i + 1 : Nat) : Int)) r → Ev (fun k => abacistref04_Same.l0 k a b (i : Int)) r := by
      intro i hi he r ih
      refine Ev.step (fun k => abacistref04_Same.l0.eq_2 ..) ?_
      have c1 : (i : Int) < (a.length : Int) := by omega
      have c2 : (0 : Int) ≤ (i : Int) := by omega
      have c3 : (i : Int) < (b.length : Int) := by omega
      simp -implicitDefEqProofs only [c1, c2, c3, rd_nat, he, if_true, nat64_succ (show i < 9223372036854775807 by omega)]
      exact ih
    simp -implicitDefEqProofs only [c0, if_true]
    rcases first_diff a b a.length with h | ⟨m, hm, h1, h2⟩
    · rw [decide_eq_true (same_of_getD hl h)]
      refine Ev_loop a.length (fun k i => abacistref04_Same.l0 k a b (i : Int)) ?_ (fun i hi ih => round i hi (h i hi) _ ih) 0 (Nat.zero_le _)
      refine Ev.step (fun k => abacistref04_Same.l0.eq_2 ..) ?_
      simp -implicitDefEqProofs only [Int.lt_irrefl, if_false]
      exact Ev.now _
    · have hne : a ≠ b := fun e => h2 (by rw [e])
      rw [decide_eq_false hne]
      refine Ev_loop m (fun k i => abacistref04_Same.l0 k a b (i : Int)) ?_ (fun i hi ih => round i (by omega) (h1 i hi) _ ih) 0 (Nat.zero_le _)
      refine Ev.step (fun k => abacistref04_Same.l0.eq_2 ..) ?_
      have c1 : (m : Int) < (a.length : Int) := by omega
      have c2 : (0 : Int) ≤ (m : Int) := by omega
      have c3 : (m : Int) < (b.length : Int) := by omega
      simp -implicitDefEqProofs only [c1, c2, c3, rd_nat, h2, if_true, if_false]
      exact Ev.now _
  · have c0 : ¬ (a.length : Int) = (b.length : Int) := by omega
    have hne : a ≠ b := fun e => hl (by rw [e])
    simp -implicitDefEqProofs only [c0, if_false, decide_eq_false hne]
    exact Ev.now _
theorem abacistref04_Same_refl (a : List Int) (ha : a.length < 4294967296) : Ev (fun k => abacistref04_Same.f k a a) true := by
  have := abacistref04_Same_ev a a ha
  rw [decide_eq_true rfl] at this; exact this

theorem abacistref02_Of_eq {a : Int} (h : 0 ≤ a) : abacistref02_Of.f a = some (un (cv a)) := by
  unfold abacistref02_Of.f
  rw [un_cv, Int.tmod_eq_emod_of_nonneg h]

theorem abacistref02_Add_eq {a b : Int} (ha : 0 ≤ a) (hb : 0 ≤ b) : abacistref02_Add.f a b = some (un (cv a + cv b)) := by
  unfold abacistref02_Add.f
  rw [abacistref02_Of_eq ha, abacistref02_Of_eq hb]
  simp only [Option.bind_some]
  have h0 := un_lo (cv a); have h1 := un_hi (cv a); have h2 := un_lo (cv b); have h3 := un_hi (cv b)
  rw [un_add]
  simp only [wu64]
  have e : (18446744069414584321 - un (cv b)) % 18446744073709551616 = 18446744069414584321 - un (cv b) := by omega
  rw [e]
  split <;> congr 1 <;> omega

theorem abacistref02_Mul_l0_ev : ∀ (m : Nat) (n : Nat) (x y : F), n < 2 ^ m → n < 18446744073709551616 → Ev (fun k => abacistref02_Mul.l0 k (un x) (n : Int) (un y)) (un (y + x * cv n))
  | 0, n, x, y, h, _ => by
    obtain rfl : n = 0 := by simpa using h
    refine Ev.step (f := fun _ => some (un y)) (fun k => ?_) ?_
    · simp only [abacistref02_Mul.l0]; rw [if_neg (by omega)]
    · have : y + x * cv ((0 : Nat) : Int) = y := by rw [show cv ((0 : Nat) : Int) = 0 from rfl]; grind
      rw [this]; exact Ev.now _
  | m + 1, n, x, y, h, hn => by
    have hm : n / 2 < 2 ^ m := by rw [Nat.pow_succ] at h; omega
    have e2 : IntKind.u64.wrap (Int.tdiv (n : Int) 2) = ((n / 2 : Nat) : Int) := by
      rw [Int.tdiv_eq_ediv_of_nonneg (by omega), wu64]; omega
    by_cases h0 : n = 0
    · subst h0
      refine Ev.step (f := fun _ => some (un y)) (fun k => ?_) ?_
      · simp only [abacistref02_Mul.l0]; rw [if_neg (by omega)]
      · have : y + x * cv ((0 : Nat) : Int) = y := by rw [show cv ((0 : Nat) : Int) = 0 from rfl]; grind
        rw [this]; exact Ev.now _
    · have em : Int.tmod (n : Int) 2 = (n : Int) % 2 := Int.tmod_eq_emod_of_nonneg (by omega)
      by_cases h1 : n % 2 = 1
      · refine Ev.step (f := fun k => abacistref02_Mul.l0 k (un (x + x)) ((n / 2 : Nat) : Int) (un (y + x))) (fun k => ?_) ?_
        · simp only [abacistref02_Mul.l0]
          rw [if_pos (by omega), em, if_pos (by omega), abacistref02_Add_eq (un_lo _) (un_lo _), abacistref02_Add_eq (un_lo _) (un_lo _), e2]
          simp only [Option.bind_some, cv_un]
        · have ih := abacistref02_Mul_l0_ev m (n / 2) (x + x) (y + x) hm (by omega)
          have e : y + x + (x + x) * cv ((n / 2 : Nat) : Int) = y + x * cv n := by
            have : (n : Int) = (1 + (((n / 2 : Nat) : Int) + ((n / 2 : Nat) : Int))) := by omega
            rw [this, cv_add, cv_add, cv_one]; grind
          rw [e] at ih; exact ih
      · refine Ev.step (f := fun k => abacistref02_Mul.l0 k (un (x + x)) ((n / 2 : Nat) : Int) (un y)) (fun k => ?_) ?_
        · simp only [abacistref02_Mul.l0]
          rw [if_pos (by omega), em, if_neg (by omega), abacistref02_Add_eq (un_lo _) (un_lo _), e2]
          simp only [Option.bind_some, cv_un]
        · have ih := abacistref02_Mul_l0_ev m (n / 2) (x + x) y hm (by omega)
          have e : y + (x + x) * cv ((n / 2 : Nat) : Int) = y + x * cv n := by
            have : (n : Int) = (((n / 2 : Nat) : Int) + ((n / 2 : Nat) : Int)) := by omega
            rw [this, cv_add]; grind
          rw [e] at ih; exact ih
theorem abacistref02_Mul_ev {a n : Int} (ha : 0 ≤ a) (hn : U n) : Ev (fun k => abacistref02_Mul.f k a n) (un (cv a * cv n)) := by
  have h := abacistref02_Mul_l0_ev 64 n.toNat (cv a) 0 (by have := hn.2; omega) (by have := hn.2; omega)
  rw [un_zero, Int.toNat_of_nonneg hn.1] at h
  have e : 0 + cv a * cv n = cv a * cv n := by grind
  rw [e] at h
  refine Ev.congr (fun k => ?_) h
  unfold abacistref02_Mul.f
  rw [abacistref02_Of_eq ha]; rfl

theorem abacistref07_Trim_ev {l : List Int} (h : UL l) (hl : l.length < 4294967296) : Ev (fun k => abacistref07_Trim.f k l) (tr l.length (co l)) := by
  unfold abacistref07_Trim.f
  refine Ev_loop l.length (fun k i => abacistref07_Trim.l0 k l (dg i (co l) : Int) (i : Int)) ?_ (fun i hi ih => ?_) 0 (Nat.zero_le _)
  · refine Ev.step (fun k => abacistref07_Trim.l0.eq_2 ..) ?_
    simp -implicitDefEqProofs only [Int.lt_irrefl, if_false]
    have hd := dg_le l.length (co l)
    unfold tr
    generalize dg l.length (co l) = d at *
    refine Ev_loop d (fun k i => abacistref07_Trim.l1 k l (d : Int) (tab i (co l)) (i : Int)) ?_ (fun i hi ih => ?_) 0 (Nat.zero_le _)
    · refine Ev.step (fun k => abacistref07_Trim.l1.eq_2 ..) ?_
      simp -implicitDefEqProofs only [Int.lt_irrefl, if_false]
      exact Ev.now _
    · refine Ev.step (fun k => abacistref07_Trim.l1.eq_2 ..) ?_
      have c3 : (i : Int) < (d : Int) := by omega
      have c4 : (0 : Int) ≤ (i : Int) := by omega
      have c5 : i < 17592186044416 := by omega
      have c6 : (i : Int) < (l.length : Int) := by omega
      simp -implicitDefEqProofs only [c3, c4, c5, c6, tab_length, if_true, abacistref02_Of_eq (U_rd h _).1, Option.bind_some, cv_rd, ← tab_succ, nat64_succ (show i < 9223372036854775807 by omega)]
      exact ih
  · refine Ev.step (fun k => abacistref07_Trim.l0.eq_2 ..) ?_
    have c1 : (i : Int) < (l.length : Int) := by omega
    have c2 : (0 : Int) ≤ (i : Int) := by omega
    simp -implicitDefEqProofs only [c1, c2, if_true, abacistref02_Of_eq (U_rd h _).1, Option.bind_some, cv_rd, nat64_succ (show i < 9223372036854775807 by omega)]
    rw [show dg (i + 1) (co l) = if co l i = 0 then dg i (co l) else i + 1 from rfl] at ih
    by_cases c : co l i = 0
    · rw [if_pos c] at ih
      rw [c, un_zero]
      simp -implicitDefEqProofs only [if_true]
      exact ih
    · have c' : ¬ un (co l i) = 0 := fun h => c (un_eq_zero.1 h)
      rw [if_neg c] at ih
      simp -implicitDefEqProofs only [c', if_false]
      exact ih

theorem abacistref07_get_eq (l : List Int) (i : Nat) : abacistref07_get.f l (i : Int) = some (l.getD i 0) := by
  unfold abacistref07_get.f
  rw [if_pos (show (i : Int) ≥ 0 by omega)]
  by_cases c : (i : Int) < (l.length : Int)
  · rw [if_pos c, if_pos (show (0 : Int) ≤ (i : Int) by omega), rd_nat]
  · rw [if_neg c, List.getD_eq_getElem?_getD, List.getElem?_eq_none (by omega)]; rfl
theorem abacistref07_get_neg (l : List Int) {a : Int} (h : a < 0) : abacistref07_get.f l a = some 0 := by
  unfold abacistref07_get.f
  rw [if_neg (by omega)]

theorem refmul_sum (f g : Nat → F) {n : Nat} (hf : ∀ i, n ≤ i → f i = 0) (j : Nat) : Sm n (fun i => if i ≤ j then f i * g (j - i) else 0) = cvl f g j := by
  unfold cvl
  by_cases h : n ≤ j + 1
  · rw [Sm_ext (f := fun i => f i * g (j - i)) h (fun i h1 h2 => by rw [hf i h1]; exact zm _)]
    exact Sm_congr (fun i hi => if_pos (by omega))
  · rw [Sm_ext (f := fun i => if i ≤ j then f i * g (j - i) else 0) (show j + 1 ≤ n by omega) (fun i h1 h2 => if_neg (by omega))]
    exact Sm_congr (fun i hi => if_pos (by omega))
where zm (a : F) : 0 * a = 0 := by grind
theorem abacistref07_Mul_ev {a b : List Int} (ha : UL a) (hb : UL b) (hl : a.length + b.length < 4294967296) : Ev (fun k => abacistref07_Mul.f k a b) (tr (a.length + b.length) (cvl (co a) (co b))) := by
  unfold abacistref07_Mul.f
  have hadd := add64 (a := a.length) (b := b.length) (by omega)
  refine Ev_loop (a.length + b.length) (fun k j => abacistref07_Mul.l0 k a b (tab j (cvl (co a) (co b))) (j : Int)) ?_ (fun j hj ihj => ?_) 0 (Nat.zero_le _)
  · refine Ev.step (fun k => abacistref07_Mul.l0.eq_2 ..) ?_
    simp -implicitDefEqProofs only [hadd, Int.lt_irrefl, if_false]
    refine Ev.bind (abacistref07_Trim_ev (UL_tab _ _) (by rw [tab_length]; exact hl)) ?_
    rw [tab_length, tr_congr (g := cvl (co a) (co b)) (fun i hi => co_tab_lt hi)]
    exact Ev.now _
  · refine Ev.step (fun k => abacistref07_Mul.l0.eq_2 ..) ?_
    have c1 : (j : Int) < ((a.length + b.length : Nat) : Int) := by omega
    simp -implicitDefEqProofs only [hadd, c1, if_true]
    refine Ev_loop a.length (fun k i => abacistref07_Mul.l1 k a b (tab j (cvl (co a) (co b))) (j : Int) (un (Sm i (fun i => if i ≤ j then co a i * co b (j - i) else 0))) (i : Int)) ?_ (fun i hi ih => ?_) 0 (Nat.zero_le _)
    · refine Ev.step (fun k => abacistref07_Mul.l1.eq_2 ..) ?_
      have c5 : j < 17592186044416 := by omega
      simp -implicitDefEqProofs only [Int.lt_irrefl, if_false, refmul_sum _ _ (fun i hi => co_out hi), tab_length, c5, if_true, ← tab_succ, nat64_succ (show j < 9223372036854775807 by omega)]
      exact ihj
    · refine Ev.step (fun k => abacistref07_Mul.l1.eq_2 ..) ?_
      have c2 : (i : Int) < (a.length : Int) := by omega
      have c3 : (0 : Int) ≤ (i : Int) := by omega
      have hg : abacistref07_get.f b (wrap64 ((j : Int) - (i : Int))) = some (if i ≤ j then b.getD (j - i) 0 else 0) := by
        by_cases c : i ≤ j
        · rw [sub64 c (by omega), abacistref07_get_eq, if_pos c]
        · rw [wrap64_of (by omega) (by omega), abacistref07_get_neg _ (by omega), if_neg c]
      have hu : U (if i ≤ j then b.getD (j - i) 0 else 0) := by
        split
        · exact U_getD hb _
        · exact U_zero
      simp -implicitDefEqProofs only [c2, c3, if_true, hg, Option.bind_some]
      refine Ev.bind (abacistref02_Mul_ev (U_rd ha _).1 hu) ?_
      have e : co a i * cv (if i ≤ j then b.getD (j - i) 0 else 0) = (if i ≤ j then co a i * co b (j - i) else 0) := by
        by_cases c : i ≤ j
        · rw [if_pos c, if_pos c]; rfl
        · rw [if_neg c, if_neg c, cv_zero]; exact mz _
      simp -implicitDefEqProofs only [abacistref02_Add_eq (un_lo _) (un_lo _), Option.bind_some, cv_un, cv_rd, e, nat64_succ (show i < 9223372036854775807 by omega)]
      exact ih
where mz (a : F) : a * 0 = 0 := by grind

theorem abacistref07_At_ev {l : List Int} (h : UL l) (hl : l.length < 4294967296) {x : Int} (hx : U x) : Ev (fun k => abacistref07_At.f k l x) (un (ev l.length (co l) (cv x))) := by
  unfold abacistref07_At.f
  have e1 : (1 : Int) = un (cv x ^ 0) := by rw [show cv x ^ 0 = 1 by grind, un_one]
  rw [e1]
  refine Ev_loop l.length (fun k i => abacistref07_At.l0 k l x (un (ev i (co l) (cv x))) (un (cv x ^ i)) (i : Int)) ?_ (fun i hi ih => ?_) 0 (Nat.zero_le _)
  · refine Ev.step (fun k => abacistref07_At.l0.eq_2 ..) ?_
    simp -implicitDefEqProofs only [Int.lt_irrefl, if_false]
    exact Ev.now _
  · refine Ev.step (fun k => abacistref07_At.l0.eq_2 ..) ?_
    have c1 : (i : Int) < (l.length : Int) := by omega
    have c2 : (0 : Int) ≤ (i : Int) := by omega
    simp -implicitDefEqProofs only [c1, c2, if_true]
    refine Ev.bind (abacistref02_Mul_ev (U_rd h _).1 (U_un _)) ?_
    simp -implicitDefEqProofs only [abacistref02_Add_eq (un_lo _) (un_lo _), Option.bind_some, cv_un, cv_rd]
    refine Ev.bind (abacistref02_Mul_ev (un_lo _) hx) ?_
    have es : cv x ^ i * cv x = cv x ^ (i + 1) := by grind
    have e2 : ev i (co l) (cv x) + co l i * cv x ^ i = ev (i + 1) (co l) (cv x) := rfl
    simp -implicitDefEqProofs only [cv_un, es, e2, nat64_succ (show i < 9223372036854775807 by omega)]
    exact ih

theorem abacistref07_Add_ev {a b : List Int} (ha : UL a) (hb : UL b) (hla : a.length < 4294967296) (hlb : b.length < 4294967296) : Ev (fun k => abacistref07_Add.f k a b) (tr (max a.length b.length) (fun i => co a i + co b i)) := by
  unfold abacistref07_Add.f
  refine Ev_loop (max a.length b.length) (fun k i => abacistref07_Add.l0 k a b (tab i (fun i => co a i + co b i)) (i : Int)) ?_ (fun i hi ih => ?_) 0 (Nat.zero_le _)
  · refine Ev.step (fun k => abacistref07_Add.l0.eq_2 ..) ?_
    have c1 : ¬ ((max a.length b.length : Nat) : Int) < (a.length : Int) := by omega
    have c2 : ¬ ((max a.length b.length : Nat) : Int) < (b.length : Int) := by omega
    simp -implicitDefEqProofs only [c1, if_false, decide_eq_false c2]
    refine Ev.step (fun k => abacistref07_Add.j1.eq_2 ..) ?_
    refine Ev.bind (abacistref07_Trim_ev (UL_tab _ _) (by rw [tab_length]; omega)) ?_
    rw [tab_length, tr_congr (g := fun i => co a i + co b i) (fun i hi => co_tab_lt hi)]
    exact Ev.now _
  · have last : Ev (fun k => abacistref07_Add.j1 k a b (tab i (fun i => co a i + co b i)) (i : Int) true) (tr (max a.length b.length) (fun i => co a i + co b i)) := by
      refine Ev.step (fun k => abacistref07_Add.j1.eq_2 ..) ?_
      have c5 : i < 17592186044416 := by omega
      simp -implicitDefEqProofs only [if_true, abacistref07_get_eq, Option.bind_some, abacistref02_Add_eq (U_getD ha _).1 (U_getD hb _).1, tab_length, c5, nat64_succ (show i < 9223372036854775807 by omega)]
      rw [tab_succ] at ih
      exact ih
    refine Ev.step (fun k => abacistref07_Add.l0.eq_2 ..) ?_
    by_cases c1 : (i : Int) < (a.length : Int)
    · simp -implicitDefEqProofs only [c1, if_true]; exact last
    · have c2 : (i : Int) < (b.length : Int) := by omega
      simp -implicitDefEqProofs only [c1, if_false, decide_eq_true c2]; exact last

theorem co_single (a : Int) : co [a] = fun i => if i = 0 then cv a else 0 := by
  funext i
  match i with
  | 0 => rfl
  | i + 1 => rw [if_neg (by omega)]; exact co_out (Nat.le_add_left 1 i)
theorem cvl_single (f : Nat → F) (a : F) (i : Nat) : cvl f (fun i => if i = 0 then a else 0) i = f i * a := by
  unfold cvl
  have hs := Sm_one (m := i + 1) (j := i) (f := fun t => f t * (if i - t = 0 then a else 0)) (by omega) (fun t ht hne => by
    show f t * (if i - t = 0 then a else 0) = 0
    rw [if_neg (by omega)]; exact k0 _)
  rw [hs]
  show f i * (if i - i = 0 then a else 0) = _
  rw [if_pos (by omega)]
where k0 {R : Nat} [NeZero R] (a : Fin R) : a * 0 = 0 := by grind
theorem abacistref07_Scale_ev {l : List Int} (h : UL l) (hl : l.length < 4294967290) {a : Int} (ha : U a) : Ev (fun k => abacistref07_Scale.f k l a) (tr l.length (fun i => co l i * cv a)) := by
  unfold abacistref07_Scale.f
  refine Ev.bind (abacistref07_Mul_ev h (UL_cons ha UL_nil) (by simp only [List.length_cons, List.length_nil]; omega)) ?_
  have e : tr (l.length + [a].length) (cvl (co l) (co [a])) = tr l.length (fun i => co l i * cv a) := by
    refine tr_eq (fun i => by rw [co_single, cvl_single]) (fun i hi => ?_) (fun i hi => by rw [co_out hi]; exact k0 _)
    rw [co_single, cvl_single, co_out (by omega)]; exact k0 _
  rw [e]
  exact Ev.now _
where k0 {R : Nat} [NeZero R] (a : Fin R) : 0 * a = 0 := by grind

theorem poly_Scale_ev {l : List Int} (h : UL l) (hl : l.length < 4294967296) {a : Int} (ha : U a) : Ev (fun k => poly_Scale.f k l a) (tr l.length (fun i => co l i * cv a)) := by
  unfold poly_Scale.f
  have d1 : (0 : Int) ≤ (l.length : Int) := by omega
  have d2 : l.length ≤ 35184372088832 := by omega
  simp -implicitDefEqProofs only [d1, d2, if_true, Int.toNat_natCast, replicate_tab]
  have e0 : tab l.length (fun _ => (0 : F)) = tab l.length (fun j => if j < 0 then co l j * cv a else 0) := tab_congr (fun j hj => by rw [if_neg (by omega)])
  rw [e0]
  refine Ev_loop l.length (fun k i => poly_Scale.l0 k l a (tab l.length (fun j => if j < i then co l j * cv a else 0)) (l.length : Int) (i : Int)) ?_ (fun i hi ih => ?_) 0 (Nat.zero_le _)
  · refine Ev.step (fun k => poly_Scale.l0.eq_2 ..) ?_
    simp -implicitDefEqProofs only [Int.lt_irrefl, if_false]
    refine Ev.bind (poly_Trim_ev (UL_tab _ _) (by rw [tab_length]; omega)) ?_
    rw [tab_length, tr_congr (g := fun i => co l i * cv a) (fun i hi => by rw [co_tab_lt hi, if_pos hi])]
    exact Ev.now _
  · refine Ev.step (fun k => poly_Scale.l0.eq_2 ..) ?_
    have c1 : (i : Int) < (l.length : Int) := by omega
    have c2 : (0 : Int) ≤ (i : Int) := by omega
    simp -implicitDefEqProofs only [c1, c2, tab_length, if_true, gold_Mul_eq (U_rd h _) ha, Option.bind_some, cv_rd, Int.toNat_natCast, tab_set, nat64_succ (show i < 9223372036854775807 by omega)]
    have e : tab l.length (fun j => if j = i then co l i * cv a else if j < i then co l j * cv a else 0) = tab l.length (fun j => if j < i + 1 then co l j * cv a else 0) := by
      apply tab_congr
      intro j hj
      by_cases hji : j = i
      · subst hji; rw [if_pos rfl, if_pos (by omega)]
      · rw [if_neg hji]
        by_cases hh : j < i
        · rw [if_pos hh, if_pos (by omega)]
        · rw [if_neg hh, if_neg (by omega)]
    rw [e]
    exact ih

theorem cv_minus_one : cv 18446744069414584320 = -1 := by
  rw [show (18446744069414584320 : Int) = 18446744069414584321 - 1 by omega, cv_sub, cv_P, cv_one]; exact k
where k {R : Nat} [NeZero R] : 0 - 1 = (-1 : Fin R) := by grind
theorem poly_Sub_ev {a b : List Int} (ha : UL a) (hb : UL b) (hla : a.length < 4294967296) (hlb : b.length < 4294967296) : Ev (fun k => poly_Sub.f k a b) (tr (max a.length b.length) (fun i => co a i - co b i)) := by
  unfold poly_Sub.f
  refine Ev.bind (poly_Scale_ev hb hlb ⟨by omega, by omega⟩) ?_
  have hl := tr_len_le b.length (fun i => co b i * cv 18446744069414584320)
  refine Ev.bind (poly_Add_two ha (UL_tr _ _) hla (by omega)) ?_
  have e : tr (max a.length (tr b.length (fun i => co b i * cv 18446744069414584320)).length) (fun i => co a i + co (tr b.length (fun i => co b i * cv 18446744069414584320)) i) = tr (max a.length b.length) (fun i => co a i - co b i) := by
    have hc : co (tr b.length (fun i => co b i * cv 18446744069414584320)) = fun i => co b i * cv 18446744069414584320 := co_trF (fun i hi => by rw [co_out hi]; exact k0 _)
    refine tr_eq (fun i => by rw [hc, cv_minus_one]; exact k1 _ _) (fun i hi => ?_) (fun i hi => by rw [co_out (l := a) (by omega), co_out (l := b) (by omega)]; exact sub_self' _)
    rw [co_out (l := a) (by omega), co_out (l := tr b.length _) (by omega)]; exact k2
  rw [e]
  exact Ev.now _
where
  k0 {R : Nat} [NeZero R] (a : Fin R) : 0 * a = 0 := by grind
  k1 {R : Nat} [NeZero R] (a b : Fin R) : a + b * -1 = a - b := by grind
  k2 {R : Nat} [NeZero R] : (0 : Fin R) + 0 = 0 := by grind

theorem abacistref07_Derive_ev {l : List Int} (h : UL l) (hl : l.length < 4294967296) : Ev (fun k => abacistref07_Derive.f k l) (tr (l.length - 1) (der (co l))) := by
  unfold abacistref07_Derive.f
  have key : Ev (fun k => abacistref07_Derive.l0 k l (tab 0 (der (co l))) ((0 + 1 : Nat) : Int)) (tr (l.length - 1) (der (co l))) := by
    refine Ev_loop (l.length - 1) (fun k i => abacistref07_Derive.l0 k l (tab i (der (co l))) ((i + 1 : Nat) : Int)) ?_ (fun i hi ih => ?_) 0 (Nat.zero_le _)
    · refine Ev.step (fun k => abacistref07_Derive.l0.eq_2 ..) ?_
      have c1 : ¬ ((l.length - 1 + 1 : Nat) : Int) < (l.length : Int) := by omega
      simp -implicitDefEqProofs only [c1, if_false]
      refine Ev.bind (abacistref07_Trim_ev (UL_tab _ _) (by rw [tab_length]; omega)) ?_
      rw [tab_length, tr_congr (g := der (co l)) (fun i hi => co_tab_lt hi)]
      exact Ev.now _
    · refine Ev.step (fun k => abacistref07_Derive.l0.eq_2 ..) ?_
      have c1 : ((i + 1 : Nat) : Int) < (l.length : Int) := by omega
      have c2 : (0 : Int) ≤ ((i + 1 : Nat) : Int) := by omega
      have c3 : i < 17592186044416 := by omega
      have hu : U ((i + 1 : Nat) : Int) := U_nat (by omega)
      have e : un (cv ((i + 1 : Nat) : Int) * co l (i + 1)) = un (der (co l) i) := by rw [k0]; rfl
      rw [wu64_of hu]
      simp -implicitDefEqProofs only [c1, c2, if_true]
      refine Ev.bind (abacistref02_Mul_ev hu.1 (U_rd h _)) ?_
      simp -implicitDefEqProofs only [c3, if_true, cv_rd, e, tab_length, ← tab_succ, nat64_succ (show i + 1 < 9223372036854775807 by omega)]
      exact ih
  exact key
where k0 {R : Nat} [NeZero R] (a b : Fin R) : a * b = b * a := by grind

end Go.Proofs.Ytdnmoefdonanbaa.BPolyOps
