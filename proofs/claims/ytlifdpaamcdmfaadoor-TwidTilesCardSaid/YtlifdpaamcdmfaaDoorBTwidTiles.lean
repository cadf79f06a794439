/- What each function of the law TwidTiles answers, in the field's own words: plain contracts over the printed functions. -/
import Derived.Test.YtlifdpaamcdmfaaDoorPTwidTilesx0
import Derived.Test.YtlifdpaamcdmfaaDoorPTwidTilesx1
import Derived.Test.YtlifdpaamcdmfaaDoorPTwidTilesx2
import Derived.Test.YtlifdpaamcdmfaaDoorPTwidTilesx3
import Derived.Test.YtlifdpaamcdmfaaDoorPTwidTilesx4
import Derived.Test.YtlifdpaamcdmfaaDoorPTwidTilesx5
import Derived.Test.YtlifdpaamcdmfaaDoorPTwidTilesx6
import Derived.Test.YtlifdpaamcdmfaaDoorPTwidTilesx7
import Derived.Test.YtlifdpaamcdmfaaDoorM9
namespace Go.Proofs.YtlifdpaamcdmfaaDoor.BTwidTiles
set_option linter.unusedVariables false
set_option linter.unusedSimpArgs false
open Go Go.RowKit Go.Proofs.YtlifdpaamcdmfaaDoor.M Go.Proofs.YtlifdpaamcdmfaaDoor.PTwidTiles Go.Proofs.YtlifdpaamcdmfaaDoorW.PrintWords Go.Proofs.YtlifdpaamcdmfaaDoorW.PrintLast Go.Proofs.YtlifdpaamcdmfaaDoorW.PrintMore
/-! Numbers of 64 bits, and what the words of the print do with them. -/
def U (a : Int) : Prop := 0 ≤ a ∧ a < 18446744073709551616
theorem U_un (x : F) : U (un x) := ⟨un_lo x, by have := un_hi x; omega⟩
theorem U_of_wf {a : Int} (h : (Lit.int .u64 a).wf = true) : U a := by
  simp [Lit.wf, IntKind.min, IntKind.max, IntKind.signed, IntKind.bits] at h
  exact ⟨by omega, by omega⟩
theorem i64_of_wf {a : Int} (h : (Lit.int .i64 a).wf = true) : -9223372036854775808 ≤ a ∧ a ≤ 9223372036854775807 := by
  simp [Lit.wf, IntKind.min, IntKind.max, IntKind.signed, IntKind.bits] at h
  exact ⟨by omega, by omega⟩
theorem u32_of_wf {a : Int} (h : (Lit.int .u32 a).wf = true) : 0 ≤ a ∧ a ≤ 4294967295 := by
  simp [Lit.wf, IntKind.min, IntKind.max, IntKind.signed, IntKind.bits] at h
  exact ⟨by omega, by omega⟩
theorem u8_of_wf {a : Int} (h : (Lit.int .u8 a).wf = true) : 0 ≤ a ∧ a ≤ 255 := by
  simp [Lit.wf, IntKind.min, IntKind.max, IntKind.signed, IntKind.bits] at h
  exact ⟨by omega, by omega⟩
theorem wu64 (a : Int) : IntKind.u64.wrap a = a % 18446744073709551616 := by simp [IntKind.wrap, IntKind.bits, IntKind.signed]
theorem wu64_of {a : Int} (h : U a) : IntKind.u64.wrap a = a := by rw [wu64]; have := h.1; have := h.2; omega
theorem U_wrap (a : Int) : U (IntKind.u64.wrap a) := by rw [wu64]; exact ⟨by omega, by omega⟩
theorem and_low {a : Int} (h : U a) : Go.bits .and .u64 a 4294967295 = a % 4294967296 := by
  have := bits_mask .u64 64 (by decide) (fun n h0 h1 => by rw [wu64]; omega) 32 (by decide) a h.1 (by have := h.2; omega)
  simpa using this
theorem and_one {a : Int} (h : U a) : Go.bits .and .u64 a 1 = a % 2 := by
  have := bits_mask .u64 64 (by decide) (fun n h0 h1 => by rw [wu64]; omega) 1 (by decide) a h.1 (by have := h.2; omega)
  simpa using this
theorem wrap64_of {a : Int} (h0 : -9223372036854775808 ≤ a) (h1 : a < 9223372036854775808) : wrap64 a = a := by unfold wrap64; omega
/-- Rows of words. -/
def UL (l : List Int) : Prop := ∀ x ∈ l, U x
theorem UL_of_wf {l : List Int} (h : ∀ x ∈ l, (Lit.int .u64 x).wf = true) : UL l := fun x hx => U_of_wf (h x hx)
theorem U_zero : U 0 := ⟨by omega, by omega⟩
theorem U_one : U 1 := ⟨by omega, by omega⟩
theorem U_getD {l : List Int} (h : UL l) (i : Nat) : U (l.getD i 0) := by
  rw [List.getD_eq_getElem?_getD]
  by_cases hi : i < l.length
  · rw [List.getElem?_eq_getElem hi]; exact h _ (List.getElem_mem hi)
  · rw [List.getElem?_eq_none (by omega)]; exact U_zero
theorem U_rd {l : List Int} (h : UL l) (i : Int) : U (rd l i) := U_getD h _
theorem UL_tab (m : Nat) (f : Nat → F) : UL (tab m f) := by
  intro x hx
  unfold tab at hx
  obtain ⟨j, _, rfl⟩ := List.mem_map.1 hx
  exact U_un _
theorem UL_nil : UL [] := fun x hx => by cases hx
theorem rd_nat (l : List Int) (i : Nat) : rd l (i : Int) = l.getD i 0 := by unfold rd; rw [Int.toNat_natCast]
theorem cv_rd (l : List Int) (i : Nat) : cv (rd l (i : Int)) = co l i := by rw [rd_nat]; rfl
theorem rd_tab {m : Nat} {f : Nat → F} {i : Nat} (h : i < m) : rd (tab m f) (i : Int) = un (f i) := by rw [rd_nat, tab_getD m f i h]
theorem nat64_succ {i : Nat} (h : i < 9223372036854775807) : wrap64 ((i : Int) + 1) = ((i + 1 : Nat) : Int) := by unfold wrap64; omega
theorem nat64_pred {i : Nat} (h : i < 9223372036854775807) : wrap64 ((i + 1 : Nat) - 1 : Int) = (i : Int) := by unfold wrap64; omega
/-- A loop that counts up. -/
theorem Ev_loop {α : Type} {r : α} (n : Nat) (g : Nat → Nat → Option α) (last : Ev (fun k => g k n) r) (step : ∀ i, i < n → Ev (fun k => g k (i + 1)) r → Ev (fun k => g k i) r) (i : Nat) (hi : i ≤ n) : Ev (fun k => g k i) r := by
  have key : ∀ d i, i + d = n → Ev (fun k => g k i) r := by
    intro d
    induction d with
    | zero => intro i hi; obtain rfl : i = n := by omega
              exact last
    | succ d ih => intro i hi; exact step i (by omega) (ih (i + 1) (by omega))
  exact key (n - i) i (by omega)
/-- A loop that counts down. -/
theorem Ev_down {α : Type} {r : α} (n : Nat) (g : Nat → Nat → Option α) (last : Ev (fun k => g k 0) r) (step : ∀ i, i < n → Ev (fun k => g k i) r → Ev (fun k => g k (i + 1)) r) : Ev (fun k => g k n) r := by
  have key : ∀ i, i ≤ n → Ev (fun k => g k i) r := by
    intro i
    induction i with
    | zero => intro _; exact last
    | succ i ih => intro hi; exact step i (by omega) (ih (by omega))
  exact key n (Nat.le_refl n)
theorem down_at (i : Nat) : (((i + 1 : Nat) : Int) - 1) = (i : Int) := by omega
theorem down_next {i : Nat} (h : i < 9223372036854775807) : wrap64 ((i : Int) - 1) = (i : Int) - 1 := by unfold wrap64; omega
theorem len64 {n : Nat} (h : n < 9223372036854775807) : wrap64 ((n : Int) - 1) = (n : Int) - 1 := by unfold wrap64; omega
theorem U_nat {n : Nat} (h : n < 18446744073709551616) : U (n : Int) := ⟨Int.natCast_nonneg _, by omega⟩
theorem two_pow_lt {n m : Nat} (h : n ≤ m) : 2 ^ n ≤ 2 ^ m := Nat.pow_le_pow_right (by omega) h
theorem U_two_pow {n : Nat} (h : n ≤ 63) : U ((2 ^ n : Nat) : Int) := U_nat (by have := two_pow_lt h; omega)
theorem i64wrap (a : Int) : IntKind.i64.wrap a = wrap64 a := by rw [IntKind.wrap_i64]; unfold wrap64; rfl
theorem int_two_pow (n : Nat) : ((2 : Int) ^ n) = ((2 ^ n : Nat) : Int) := by simp
theorem shl_i64 {n : Nat} (h : n ≤ 62) : shl .i64 1 (IntKind.u64.wrap (n : Int)) = ((2 ^ n : Nat) : Int) := by
  have hu : IntKind.u64.wrap (n : Int) = (n : Int) := wu64_of ⟨by omega, by omega⟩
  unfold shl
  rw [hu, Int.toNat_natCast, Nat.min_eq_left (by rw [show IntKind.i64.bits = 64 from rfl]; omega), i64wrap, Int.one_mul, int_two_pow]
  have := two_pow_lt (n := n) (m := 62) h
  generalize 2 ^ n = q at *
  rw [wrap64_of (by omega) (by omega)]
theorem shl_u64 {n : Nat} (h : n ≤ 63) : shl .u64 1 (IntKind.u64.wrap (n : Int)) = ((2 ^ n : Nat) : Int) := by
  have hu : IntKind.u64.wrap (n : Int) = (n : Int) := wu64_of ⟨by omega, by omega⟩
  unfold shl
  rw [hu, Int.toNat_natCast, Nat.min_eq_left (by rw [show IntKind.u64.bits = 64 from rfl]; omega), Int.one_mul, int_two_pow]
  have := two_pow_lt (n := n) (m := 63) h
  generalize 2 ^ n = q at *
  exact wu64_of ⟨by omega, by omega⟩
theorem or_i64 {x n : Nat} (hx : x < 2 ^ n) (hn : n ≤ 62) : Go.bits .or .i64 (x : Int) ((2 ^ n : Nat) : Int) = ((x + 2 ^ n : Nat) : Int) := by
  have h1 := two_pow_lt (n := n) (m := 62) hn
  have h2 : 2 ^ n < 2 ^ 63 := by omega
  have hb := (bits_nat .i64 63 (by decide) (fun n h0 h1 => by rw [i64wrap]; exact wrap64_of (by omega) (by omega)) x (2 ^ n) (by omega) h2).2
  have e := Nat.two_pow_add_eq_or_of_lt hx 1
  rw [Nat.mul_one] at e
  rw [hb, Nat.or_comm, ← e, Nat.add_comm]
theorem getD_take {l : List Int} {d i : Nat} (h : i < d) : (l.take d).getD i 0 = l.getD i 0 := by
  rw [List.getD_eq_getElem?_getD, List.getD_eq_getElem?_getD, List.getElem?_take, if_pos h]
theorem getD_drop (l : List Int) (d i : Nat) : (l.drop d).getD i 0 = l.getD (d + i) 0 := by
  rw [List.getD_eq_getElem?_getD, List.getD_eq_getElem?_getD, List.getElem?_drop]
theorem UL_take {l : List Int} (h : UL l) (d : Nat) : UL (l.take d) := fun x hx => h x (List.mem_of_mem_take hx)
theorem UL_drop {l : List Int} (h : UL l) (d : Nat) : UL (l.drop d) := fun x hx => h x (List.mem_of_mem_drop hx)
theorem co_take {l : List Int} {d i : Nat} (h : i < d) : co (l.take d) i = co l i := by unfold co; rw [getD_take h]
theorem co_drop (l : List Int) (d i : Nat) : co (l.drop d) i = co l (d + i) := by unfold co; rw [getD_drop]
theorem UL_tr (m : Nat) (f : Nat → F) : UL (tr m f) := UL_tab _ _
theorem add64 {a b : Nat} (h : a + b < 9223372036854775808) : wrap64 ((a : Int) + (b : Int)) = ((a + b : Nat) : Int) := by unfold wrap64; omega
theorem sub64 {a b : Nat} (h : b ≤ a) (h2 : a < 9223372036854775808) : wrap64 ((a : Int) - (b : Int)) = ((a - b : Nat) : Int) := by unfold wrap64; omega
theorem UL_cons {a : Int} {l : List Int} (h : U a) (hl : UL l) : UL (a :: l) := by
  intro x hx
  rcases List.mem_cons.1 hx with rfl | hx
  · exact h
  · exact hl x hx
theorem co_cons_zero (a : Int) (l : List Int) : co (a :: l) 0 = cv a := rfl
theorem co_cons_succ (a : Int) (l : List Int) (i : Nat) : co (a :: l) (i + 1) = co l i := rfl

/-! ### bits_Mul64 -/
theorem mul64_arith (a b : Int) (ha : U a) (hb : U b) :
    IntKind.u64.wrap ((IntKind.u64.wrap ((IntKind.u64.wrap ((a / 4294967296) * (b / 4294967296))) + ((IntKind.u64.wrap ((IntKind.u64.wrap ((a / 4294967296) * (b % 4294967296))) + ((IntKind.u64.wrap ((a % 4294967296) * (b % 4294967296))) / 4294967296))) / 4294967296))) + ((IntKind.u64.wrap ((Go.bits .and .u64 (IntKind.u64.wrap ((IntKind.u64.wrap ((a / 4294967296) * (b % 4294967296))) + ((IntKind.u64.wrap ((a % 4294967296) * (b % 4294967296))) / 4294967296))) 4294967295) + (IntKind.u64.wrap ((a % 4294967296) * (b / 4294967296))))) / 4294967296)) = a * b / 18446744073709551616 := by
  rw [and_low (U_wrap _)]
  simp only [wu64]
  have a0 := ha.1; have a1 := ha.2; have b0 := hb.1; have b1 := hb.2
  have ea : a = 4294967296 * (a / 4294967296) + a % 4294967296 := by omega
  have eb : b = 4294967296 * (b / 4294967296) + b % 4294967296 := by omega
  have x0 : 0 ≤ a / 4294967296 := by omega
  have x1 : a / 4294967296 ≤ 4294967295 := by omega
  have y0 : 0 ≤ b / 4294967296 := by omega
  have y1 : b / 4294967296 ≤ 4294967295 := by omega
  have u0 : 0 ≤ a % 4294967296 := by omega
  have u1 : a % 4294967296 ≤ 4294967295 := by omega
  have v0 : 0 ≤ b % 4294967296 := by omega
  have v1 : b % 4294967296 ≤ 4294967295 := by omega
  generalize a / 4294967296 = x at *
  generalize b / 4294967296 = y at *
  generalize a % 4294967296 = u at *
  generalize b % 4294967296 = v at *
  have key : ∀ p q : Int, 0 ≤ p → p ≤ 4294967295 → 0 ≤ q → q ≤ 4294967295 → 0 ≤ p * q ∧ p * q ≤ 18446744065119617025 := by
    intro p q p0 p1 q0 q1
    refine ⟨Int.mul_nonneg p0 q0, ?_⟩
    have := Int.mul_le_mul p1 q1 q0 (by omega)
    omega
  have hxy := key x y x0 x1 y0 y1
  have hxv := key x v x0 x1 v0 v1
  have huv := key u v u0 u1 v0 v1
  have huy := key u y u0 u1 y0 y1
  have eab : a * b = 18446744073709551616 * (x * y) + 4294967296 * (x * v) + 4294967296 * (u * y) + u * v := by
    rw [ea, eb]; grind
  rw [eab]
  generalize x * y = xy at *
  generalize x * v = xv at *
  generalize u * v = uv at *
  generalize u * y = uy at *
  clear ea eb eab key
  rw [Int.emod_eq_of_lt hxy.1 (by omega), Int.emod_eq_of_lt hxv.1 (by omega), Int.emod_eq_of_lt huv.1 (by omega), Int.emod_eq_of_lt huy.1 (by omega)]
  rw [Int.emod_eq_of_lt (a := xv + uv / 4294967296) (by omega) (by omega)]
  omega
theorem bits_Mul64_eq {a b : Int} (ha : U a) (hb : U b) : bits_Mul64.f a b = some (a * b / 18446744073709551616, a * b % 18446744073709551616) := by
  unfold bits_Mul64.f
  rw [and_low ha, and_low hb, mul64_arith a b ha hb, wu64]

/-! ### wide_Mul -/
theorem wide_Mul_eq {a b : Int} (ha : U a) (hb : U b) : wide_Mul.f a b = some (a * b / 18446744073709551616, a * b % 18446744073709551616) := by
  unfold wide_Mul.f
  rw [bits_Mul64_eq ha hb]; rfl
theorem U_wide {a b : Int} (ha : U a) (hb : U b) : U (a * b / 18446744073709551616) ∧ U (a * b % 18446744073709551616) := by
  have h0 := Int.mul_nonneg ha.1 hb.1
  have h1 : a * b ≤ 18446744073709551615 * 18446744073709551615 := Int.mul_le_mul (by have := ha.2; omega) (by have := hb.2; omega) hb.1 (by omega)
  generalize a * b = c at *
  exact ⟨⟨by omega, by omega⟩, ⟨by omega, by omega⟩⟩

/-! ### gold_Of -/
theorem gold_Of_eq {a : Int} (h : U a) : gold_Of.f a = some (un (cv a)) := by
  unfold gold_Of.f
  rw [un_cv]
  have := h.1; have := h.2
  by_cases c : a ≥ 18446744069414584321
  · rw [if_pos c, wu64]; congr 1; omega
  · rw [if_neg c]; congr 1; omega

/-! ### gold_Reduce -/
theorem gold_Reduce_eq {hi lo : Int} (h : U hi) (h2 : U lo) : gold_Reduce.f hi lo = some (un (cv (hi * 18446744073709551616 + lo))) := by
  have e0 := h.1; have e1 := h.2; have e2 := h2.1; have e3 := h2.2
  unfold gold_Reduce.f
  rw [and_low h]
  simp only [wu64]
  have top : hi = 4294967296 * (hi / 4294967296) + hi % 4294967296 := by omega
  generalize hi / 4294967296 = t at *
  generalize hm : hi % 4294967296 = m at *
  have hm0 : 0 ≤ m := by omega
  have hm1 : m < 4294967296 := by omega
  have ht0 : 0 ≤ t := by omega
  have ht1 : t < 4294967296 := by omega
  have e : m * 4294967295 % 18446744073709551616 = m * 4294967295 := by omega
  rw [e]
  by_cases c1 : lo < t
  · rw [if_pos c1]
    have a1 : (lo - t) % 18446744073709551616 = lo - t + 18446744073709551616 := by omega
    rw [a1]
    have a2 : (lo - t + 18446744073709551616 - 4294967295) % 18446744073709551616 = lo - t + 18446744073709551616 - 4294967295 := by omega
    rw [a2]
    by_cases c2 : (lo - t + 18446744073709551616 - 4294967295 + m * 4294967295) % 18446744073709551616 < m * 4294967295
    · have c3 : (lo - t + 18446744073709551616 - 4294967295 + m * 4294967295) % 18446744073709551616 = lo - t - 4294967295 + m * 4294967295 := by omega
      have c4 : (lo - t - 4294967295 + m * 4294967295 + 4294967295) % 18446744073709551616 = lo - t + m * 4294967295 := by omega
      rw [if_pos c2, c3, c4, gold_Of_eq ⟨by omega, by omega⟩]
      simp only [Option.bind_some, Option.some.injEq, un_inj_iff]
      exact cv_of_eq (-(t * 4294967297 + m)) (by omega)
    · have c3 : (lo - t + 18446744073709551616 - 4294967295 + m * 4294967295) % 18446744073709551616 = lo - t + 18446744073709551616 - 4294967295 + m * 4294967295 := by omega
      rw [if_neg c2, c3, gold_Of_eq ⟨by omega, by omega⟩]
      simp only [Option.bind_some, Option.some.injEq, un_inj_iff]
      exact cv_of_eq (-(t * 4294967297 + m) + 1) (by omega)
  · rw [if_neg c1]
    have a1 : (lo - t) % 18446744073709551616 = lo - t := by omega
    rw [a1]
    by_cases c2 : (lo - t + m * 4294967295) % 18446744073709551616 < m * 4294967295
    · have c3 : (lo - t + m * 4294967295) % 18446744073709551616 = lo - t + m * 4294967295 - 18446744073709551616 := by omega
      have c4 : (lo - t + m * 4294967295 - 18446744073709551616 + 4294967295) % 18446744073709551616 = lo - t + m * 4294967295 - 18446744069414584321 := by omega
      rw [if_pos c2, c3, c4, gold_Of_eq ⟨by omega, by omega⟩]
      simp only [Option.bind_some, Option.some.injEq, un_inj_iff]
      exact cv_of_eq (-(t * 4294967297 + m) - 1) (by omega)
    · have c3 : (lo - t + m * 4294967295) % 18446744073709551616 = lo - t + m * 4294967295 := by omega
      rw [if_neg c2, c3, gold_Of_eq ⟨by omega, by omega⟩]
      simp only [Option.bind_some, Option.some.injEq, un_inj_iff]
      exact cv_of_eq (-(t * 4294967297 + m)) (by omega)

/-! ### gold_Mul -/
theorem gold_Mul_eq {a b : Int} (ha : U a) (hb : U b) : gold_Mul.f a b = some (un (cv a * cv b)) := by
  unfold gold_Mul.f
  rw [wide_Mul_eq ha hb]
  simp only [Option.bind_some]
  rw [gold_Reduce_eq (U_wide ha hb).1 (U_wide ha hb).2]
  simp only [Option.bind_some, ← cv_mul]
  congr 3
  omega

/-! ### twid_Scale -/
theorem twid_Scale_ev {l : List Int} (h : UL l) (hl : l.length < 4294967296) {a : Int} (ha : U a) : Ev (fun k => twid_Scale.f k l a) (tab l.length (fun i => co l i * cv a)) := by
  unfold twid_Scale.f
  have d1 : (0 : Int) ≤ (l.length : Int) := by omega
  have d2 : l.length ≤ 35184372088832 := by omega
  simp -implicitDefEqProofs only [d1, d2, if_true, Int.toNat_natCast, replicate_tab]
  have e0 : tab l.length (fun _ => (0 : F)) = tab l.length (fun j => if j < 0 then co l j * cv a else 0) := tab_congr (fun j hj => by rw [if_neg (by omega)])
  rw [e0]
  refine Ev_loop l.length (fun k i => twid_Scale.l0 k a (tab l.length (fun j => if j < i then co l j * cv a else 0)) l (l.length : Int) (i : Int)) ?_ (fun i hi ih => ?_) 0 (Nat.zero_le _)
  · refine Ev.step (fun k => twid_Scale.l0.eq_2 ..) ?_
    simp -implicitDefEqProofs only [Int.lt_irrefl, if_false]
    rw [tab_congr (g := fun i => co l i * cv a) (fun i hi => by rw [if_pos hi])]
    exact Ev.now _
  · refine Ev.step (fun k => twid_Scale.l0.eq_2 ..) ?_
    have c1 : (i : Int) < (l.length : Int) := by omega
    have c2 : (0 : Int) ≤ (i : Int) := by omega
    simp -implicitDefEqProofs only [c1, c2, tab_length, if_true, gold_Mul_eq (U_rd h _) ha, Option.bind_some, cv_rd, Int.toNat_natCast, tab_set, nat64_succ (show i < 9223372036854775807 by omega)]
    have e : tab l.length (fun j => if j = i then co l i * cv a else if j < i then co l j * cv a else 0) = tab l.length (fun j => if j < i + 1 then co l j * cv a else 0) := by
      apply tab_congr
      intro j hj
      by_cases hji : j = i
      · subst hji; rw [if_pos rfl, if_pos (by omega)]
      · rw [if_neg hji]
        by_cases hh : j < i
        · rw [if_pos hh, if_pos (by omega)]
        · rw [if_neg hh, if_neg (by omega)]
    rw [e]
    exact ih

/-! ### root_good -/
theorem root_good_yes {a : Int} (h0 : 0 ≤ a) (h1 : a ≤ 32) : root_good.f a = some true := by
  unfold root_good.f; rw [if_pos h0, decide_eq_true h1]
theorem root_good_no {a : Int} (h : a < 0 ∨ 32 < a) : root_good.f a = some false := by
  unfold root_good.f
  by_cases c : a ≥ 0
  · rw [if_pos c, decide_eq_false (by omega)]
  · rw [if_neg c]

/-! ### gold_Pow -/
theorem gold_Pow_l0_ev : ∀ (m : Nat) (n : Nat) (x y : F), n < 2 ^ m → n < 18446744073709551616 → Ev (fun k => gold_Pow.l0 k (n : Int) (un x) (un y)) (un (x * y ^ n))
  | 0, n, x, y, h, _ => by
    obtain rfl : n = 0 := by simpa using h
    refine Ev.step (f := fun _ => some (un x)) (fun k => ?_) ?_
    · simp only [gold_Pow.l0]; rw [if_neg (by omega)]
    · have : x * y ^ 0 = x := by grind
      rw [this]; exact Ev.now _
  | m + 1, n, x, y, h, hn => by
    have hm : n / 2 < 2 ^ m := by rw [Nat.pow_succ] at h; omega
    have e2 : ((n : Int) / 2) = ((n / 2 : Nat) : Int) := by omega
    by_cases h0 : n = 0
    · subst h0
      refine Ev.step (f := fun _ => some (un x)) (fun k => ?_) ?_
      · simp only [gold_Pow.l0]; rw [if_neg (by omega)]
      · have : x * y ^ 0 = x := by grind
        rw [this]; exact Ev.now _
    · have hU : U (n : Int) := ⟨by omega, by omega⟩
      by_cases h1 : n % 2 = 1
      · refine Ev.step (f := fun k => gold_Pow.l0 k ((n / 2 : Nat) : Int) (un (x * y)) (un (y * y))) (fun k => ?_) ?_
        · simp only [gold_Pow.l0]
          rw [if_pos (by omega), and_one hU, if_pos (by omega), gold_Mul_eq (U_un _) (U_un _), gold_Mul_eq (U_un _) (U_un _), e2]
          simp only [Option.bind_some, cv_un]
        · have ih := gold_Pow_l0_ev m (n / 2) (x * y) (y * y) hm (by omega)
          have e : x * y * (y * y) ^ (n / 2) = x * y ^ n := by
            have : n = 2 * (n / 2) + 1 := by omega
            rw [show y * y = y ^ 2 by grind, ← pow_mul']
            rw [show x * y * y ^ (2 * (n / 2)) = x * y ^ (2 * (n / 2) + 1) by grind, ← this]
          rw [e] at ih; exact ih
      · refine Ev.step (f := fun k => gold_Pow.l0 k ((n / 2 : Nat) : Int) (un x) (un (y * y))) (fun k => ?_) ?_
        · simp only [gold_Pow.l0]
          rw [if_pos (by omega), and_one hU, if_neg (by omega), gold_Mul_eq (U_un _) (U_un _), e2]
          simp only [Option.bind_some, cv_un]
        · have ih := gold_Pow_l0_ev m (n / 2) x (y * y) hm (by omega)
          have e : x * (y * y) ^ (n / 2) = x * y ^ n := by
            have : n = 2 * (n / 2) := by omega
            rw [show y * y = y ^ 2 by grind, ← pow_mul', ← this]
          rw [e] at ih; exact ih
theorem gold_Pow_ev {a n : Int} (ha : U a) (hn : U n) : Ev (fun k => gold_Pow.f k a n) (un (cv a ^ n.toNat)) := by
  have h := gold_Pow_l0_ev 64 n.toNat 1 (cv a) (by have := hn.2; omega) (by have := hn.2; omega)
  rw [un_one, Int.toNat_of_nonneg hn.1] at h
  have e : 1 * cv a ^ n.toNat = cv a ^ n.toNat := by grind
  rw [e] at h
  refine Ev.congr (fun k => ?_) h
  unfold gold_Pow.f
  rw [gold_Of_eq ha]; rfl

/-! ### root_root -/
theorem shr_word {k : Nat} (hk : k ≤ 32) : shr .u64 18446744069414584320 (IntKind.u64.wrap (k : Int)) = ((18446744069414584320 / 2 ^ k : Nat) : Int) := by
  unfold shr
  rw [wu64_of ⟨by omega, by omega⟩, Int.toNat_natCast, Nat.min_eq_left (by rw [show IntKind.u64.bits = 64 from rfl]; omega)]
  rw [Int.natCast_ediv]; congr 1
theorem root_root_ev {k : Nat} (hk : k ≤ 32) : Ev (fun n => root_root.f n (k : Int)) (un (rt k)) := by
  unfold root_root.f
  have c : (0 : Int) ≤ IntKind.u64.wrap (k : Int) := (U_wrap _).1
  have hp : 18446744069414584320 / 2 ^ k ≤ 18446744069414584320 := Nat.div_le_self _ _
  simp -implicitDefEqProofs only [c, if_true, shr_word hk]
  have hu : U ((18446744069414584320 / 2 ^ k : Nat) : Int) := by
    generalize 18446744069414584320 / 2 ^ k = q at *
    exact ⟨by omega, by omega⟩
  refine Ev.bind (gold_Pow_ev ⟨by omega, by omega⟩ hu) ?_
  rw [Int.toNat_natCast]
  exact Ev.now _

/-! ### root_Root -/
theorem root_Root_ev {k : Nat} (hk : k ≤ 32) : Ev (fun n => root_Root.f n (k : Int)) (un (rt k), 0) := by
  unfold root_Root.f
  rw [root_good_yes (by omega) (by omega)]
  simp -implicitDefEqProofs only [Option.bind_some, if_true]
  exact Ev.bind (root_root_ev hk) (Ev.now _)
theorem root_Root_no {k : Int} (h : k < 0 ∨ 32 < k) : Ev (fun n => root_Root.f n k) (0, 1) := by
  unfold root_Root.f
  rw [root_good_no h]
  simp -implicitDefEqProofs only [Option.bind_some, show ¬ (false = true) by decide, if_false]
  exact Ev.now _

/-! ### gold_Inv -/
def erz (x : F) : Int := if x = 0 then 13 else 0
theorem erz_ne {x : F} (h : x ≠ 0) : erz x = 0 := if_neg h
theorem erz_zero : erz 0 = 13 := if_pos rfl
theorem gold_Inv_ev {a : Int} (h : U a) : Ev (fun k => gold_Inv.f k a) (un (inv (cv a)), erz (cv a)) := by
  unfold gold_Inv.f
  rw [gold_Of_eq h]
  simp -implicitDefEqProofs only [Option.bind_some]
  by_cases c : cv a = 0
  · have c' : un (cv a) = 0 := un_eq_zero.2 c
    simp -implicitDefEqProofs only [c', if_true]
    rw [c, inv_zero, erz_zero, un_zero]; exact Ev.now _
  · have c' : ¬ un (cv a) = 0 := fun h => c (un_eq_zero.1 h)
    simp -implicitDefEqProofs only [c', if_false, erz_ne c]
    refine Ev.bind (gold_Pow_ev h ⟨by omega, by omega⟩) ?_
    exact Ev.now _

/-! ### root_Back -/
theorem root_Back_ev {k : Nat} (hk : k ≤ 32) : Ev (fun n => root_Back.f n (k : Int)) (un (inv (rt k)), 0) := by
  unfold root_Back.f
  rw [root_good_yes (by omega) (by omega)]
  simp -implicitDefEqProofs only [Option.bind_some, if_true]
  refine Ev.bind (root_root_ev hk) ?_
  have h := gold_Inv_ev (U_un (rt k))
  rw [cv_un, erz_ne (rt_ne_zero k)] at h
  refine Ev.bind h ?_
  exact Ev.now _
theorem root_Back_no {k : Int} (h : k < 0 ∨ 32 < k) : Ev (fun n => root_Back.f n k) (0, 1) := by
  unfold root_Back.f
  rw [root_good_no h]
  simp -implicitDefEqProofs only [Option.bind_some, show ¬ (false = true) by decide, if_false]
  exact Ev.now _

/-! ### twid_Root -/
theorem twid_Root_ev {k : Nat} (hk : k ≤ 32) {d : Int} (hd : d = 0 ∨ d = 1) : Ev (fun n => twid_Root.f n (k : Int) d) (un (dr k d), 0) := by
  unfold twid_Root.f
  simp -implicitDefEqProofs only [show ¬ (k : Int) < 0 by omega, if_false, decide_eq_false (show ¬ (k : Int) > 32 by omega)]
  refine Ev.step (fun n => twid_Root.j0.eq_2 ..) ?_
  rcases hd with rfl | rfl
  · simp -implicitDefEqProofs only [show ¬ (false = true) by decide, if_false, if_true]
    refine Ev.bind (root_Root_ev hk) ?_
    rw [dr_fwd]; exact Ev.now _
  · simp -implicitDefEqProofs only [show ¬ (false = true) by decide, if_false, if_true, show ¬ (1 : Int) = 0 by omega]
    refine Ev.bind (root_Back_ev hk) ?_
    rw [dr_inv]; exact Ev.now _
theorem twid_Root_arg {k d : Int} (h : k < 0 ∨ 32 < k) : Ev (fun n => twid_Root.f n k d) (0, 1) := by
  have last : Ev (fun n => twid_Root.j0 n k d true) (0, 1) := by
    refine Ev.step (fun n => twid_Root.j0.eq_2 ..) ?_
    exact Ev.now _
  unfold twid_Root.f
  by_cases c : k < 0
  · simp -implicitDefEqProofs only [c, if_true]
    exact last
  · simp -implicitDefEqProofs only [c, if_false, decide_eq_true (show k > 32 by omega)]
    exact last
theorem twid_Root_kind {k d : Int} (h : ¬ (k < 0 ∨ 32 < k)) (hd : ¬ (d = 0 ∨ d = 1)) : Ev (fun n => twid_Root.f n k d) (0, 18) := by
  unfold twid_Root.f
  simp -implicitDefEqProofs only [show ¬ k < 0 by omega, if_false, decide_eq_false (show ¬ k > 32 by omega)]
  refine Ev.step (fun n => twid_Root.j0.eq_2 ..) ?_
  simp -implicitDefEqProofs only [show ¬ (false = true) by decide, if_false, show ¬ d = 0 by omega, show ¬ d = 1 by omega]
  exact Ev.now _

/-! ### twid_Share -/
theorem twid_Share_ev {k : Nat} (hk : k ≤ 32) : Ev (fun n => twid_Share.f n (k : Int)) (un (sh k), 0) := by
  unfold twid_Share.f
  have c : (0 : Int) ≤ IntKind.u64.wrap (k : Int) := (U_wrap _).1
  simp -implicitDefEqProofs only [show ¬ (k : Int) < 0 by omega, show ¬ (k : Int) > 32 by omega, if_false, c, if_true, shl_u64 (show k ≤ 63 by omega)]
  have h := gold_Inv_ev (U_two_pow (n := k) (by omega))
  rw [erz_ne (two_pow_ne hk)] at h
  refine Ev.bind h ?_
  exact Ev.now _
theorem twid_Share_no {k : Int} (h : k < 0 ∨ 32 < k) : Ev (fun n => twid_Share.f n k) (0, 1) := by
  unfold twid_Share.f
  by_cases c : k < 0
  · simp -implicitDefEqProofs only [c, if_true]
    exact Ev.now _
  · simp -implicitDefEqProofs only [c, if_false, show k > 32 by omega, if_true]
    exact Ev.now _

/-! ### bits_TrailingZeros64 -/

/-! ### root_Fits -/
theorem and_pred_pow : ∀ (b n : Nat), 0 < n → n < 2 ^ b → n &&& (n - 1) = 0 → ∃ j, n = 2 ^ j := by
  intro b
  induction b with
  | zero => intro n h0 h1; omega
  | succ b ih =>
    intro n h0 h1 h
    rcases Nat.mod_two_eq_zero_or_one n with e | e
    · obtain ⟨m, rfl⟩ : ∃ m, n = 2 * m := ⟨n / 2, by omega⟩
      have hd : (2 * m &&& (2 * m - 1)) / 2 = m &&& (m - 1) := by
        rw [Nat.and_div_two, show 2 * m / 2 = m by omega, show (2 * m - 1) / 2 = m - 1 by omega]
      rw [h] at hd
      obtain ⟨j, hj⟩ := ih m (by omega) (by rw [Nat.pow_succ] at h1; omega) hd.symm
      exact ⟨j + 1, by rw [Nat.pow_succ]; omega⟩
    · have hd : (n &&& (n - 1)) / 2 = (n / 2) := by
        rw [Nat.and_div_two, show (n - 1) / 2 = n / 2 by omega, Nat.and_self]
      rw [h] at hd
      exact ⟨0, by rw [Nat.pow_zero]; omega⟩
theorem root_Fits_all : ((List.range 33).all fun j => decide (root_Fits.f ((2 ^ j : Nat) : Int) = some ((j : Int), true))) = true := by decide +kernel
theorem root_Fits_yes {j : Nat} (hj : j ≤ 32) : root_Fits.f ((2 ^ j : Nat) : Int) = some ((j : Int), true) :=
  of_decide_eq_true (List.all_eq_true.1 root_Fits_all j (List.mem_range.2 (by omega)))
theorem root_Fits_no {a : Int} (h : ∀ j : Nat, j ≤ 32 → a ≠ ((2 ^ j : Nat) : Int)) : root_Fits.f a = some (0, false) := by
  unfold root_Fits.f
  by_cases c : a < 1
  · rw [if_pos c]
  · rw [if_neg c]
    by_cases c2 : a > 4294967296
    · rw [if_pos c2]
    · rw [if_neg c2]
      obtain ⟨n, rfl⟩ := Int.eq_ofNat_of_zero_le (show 0 ≤ a by omega)
      have e1 : wrap64 ((n : Int) - 1) = ((n - 1 : Nat) : Int) := by unfold wrap64; omega
      have hb := (bits_nat .i64 63 (by decide) (fun n h0 h1 => by rw [i64wrap]; exact wrap64_of (by omega) (by omega)) n (n - 1) (by omega) (by omega)).1
      rw [e1, hb, if_neg]
      intro h0
      obtain ⟨j, hj⟩ := and_pred_pow 33 n (by omega) (by omega) (by omega)
      have hj2 : j ≤ 32 := by
        have : ¬ 33 ≤ j := fun hh => by have := two_pow_lt hh; omega
        omega
      exact h j hj2 (by rw [hj])
theorem fits_cases (a : Int) : (∃ j : Nat, j ≤ 32 ∧ a = ((2 ^ j : Nat) : Int)) ∨ ∀ j : Nat, j ≤ 32 → a ≠ ((2 ^ j : Nat) : Int) := by
  by_cases h : ∃ j : Nat, j ≤ 32 ∧ a = ((2 ^ j : Nat) : Int)
  · exact .inl h
  · exact .inr fun j hj e => h ⟨j, hj, e⟩

/-! ### root_Powers -/
theorem root_Powers_ev {w : Int} (hw : U w) {n : Nat} (hn : n ≤ 1048576) : Ev (fun k => root_Powers.f k w (n : Int)) (tab n (fun i => cv w ^ i), 0) := by
  unfold root_Powers.f
  have c1 : ¬ ((n : Int) < 0) := by omega
  have c2 : decide ((n : Int) > 1048576) = false := decide_eq_false (by omega)
  simp -implicitDefEqProofs only [c1, c2, if_false]
  refine Ev.step (fun k => root_Powers.j0.eq_2 ..) ?_
  have c3 : (0 : Int) ≤ (n : Int) := by omega
  have c4 : n ≤ 35184372088832 := by omega
  simp -implicitDefEqProofs only [c3, c4, Int.toNat_natCast, if_true, if_false, show ¬ (false = true) by decide, Option.bind_some, replicate_tab, tab_length]
  have e0 : tab n (fun _ => (0 : F)) = tab n (fun j => if j < 0 then cv w ^ j else 0) := tab_congr (fun j hj => by rw [if_neg (by omega)])
  have e1 : (1 : Int) = un (cv w ^ 0) := by rw [show cv w ^ 0 = 1 by grind, un_one]
  rw [e0, e1]
  refine Ev_loop n (fun k i => root_Powers.l0 k w (tab n (fun j => if j < i then cv w ^ j else 0)) (un (cv w ^ i)) (n : Int) (i : Int)) ?_ (fun i hi ih => ?_) 0 (Nat.zero_le _)
  · refine Ev.step (fun k => root_Powers.l0.eq_2 ..) ?_
    simp -implicitDefEqProofs only [Int.lt_irrefl, if_false]
    have e : tab n (fun j => if j < n then cv w ^ j else 0) = tab n (fun i => cv w ^ i) := tab_congr (fun j hj => by rw [if_pos hj])
    rw [e]
    exact Ev.now _
  · refine Ev.step (fun k => root_Powers.l0.eq_2 ..) ?_
    have c1 : (i : Int) < (n : Int) := by omega
    have c2 : (0 : Int) ≤ (i : Int) := by omega
    have es : cv w ^ i * cv w = cv w ^ (i + 1) := by grind
    simp -implicitDefEqProofs only [c1, c2, tab_length, if_true, gold_Mul_eq (U_un _) hw, Option.bind_some, cv_un, Int.toNat_natCast, tab_set, es, nat64_succ (show i < 9223372036854775807 by omega)]
    have e : tab n (fun j => if j = i then cv w ^ i else if j < i then cv w ^ j else 0) = tab n (fun j => if j < i + 1 then cv w ^ j else 0) := by
      apply tab_congr
      intro j hj
      by_cases hji : j = i
      · subst hji; rw [if_pos rfl, if_pos (by omega)]
      · rw [if_neg hji]
        by_cases hh : j < i
        · rw [if_pos hh, if_pos (by omega)]
        · rw [if_neg hh, if_neg (by omega)]
    rw [e]
    exact ih
theorem root_Powers_no {w n : Int} (h : n < 0 ∨ 1048576 < n) : Ev (fun k => root_Powers.f k w n) ([], 1) := by
  unfold root_Powers.f
  by_cases c : n < 0
  · simp -implicitDefEqProofs only [c, if_true]
    refine Ev.step (fun k => root_Powers.j0.eq_2 ..) ?_
    simp -implicitDefEqProofs only [if_true]
    exact Ev.now _
  · simp -implicitDefEqProofs only [c, if_false, decide_eq_true (show n > 1048576 by omega)]
    refine Ev.step (fun k => root_Powers.j0.eq_2 ..) ?_
    simp -implicitDefEqProofs only [if_true]
    exact Ev.now _

/-! ### bits_Add64 -/
theorem bits_Add64_eq {a b c : Int} (ha : 0 ≤ a) (hb : 0 ≤ b) (h0 : 0 ≤ c) (h1 : c ≤ 1) : bits_Add64.f a b c = some ((a + b + c) % 18446744073709551616, (a + b + c) / 18446744073709551616) := by
  unfold bits_Add64.f
  rw [if_pos ha, if_pos hb, if_pos h0, if_pos h1]

/-! ### wide_Add -/
theorem wide_Add_eq {a b c d : Int} (ha : U a) (hb : U b) (hc : U c) (hd : U d) :
    wide_Add.f a b c d = some ((a * 18446744073709551616 + b + (c * 18446744073709551616 + d)) / 18446744073709551616 % 18446744073709551616, (a * 18446744073709551616 + b + (c * 18446744073709551616 + d)) % 18446744073709551616, (a * 18446744073709551616 + b + (c * 18446744073709551616 + d)) / 340282366920938463463374607431768211456) := by
  have := ha.1; have := ha.2; have := hb.1; have := hb.2; have := hc.1; have := hc.2; have := hd.1; have := hd.2
  unfold wide_Add.f
  rw [bits_Add64_eq hb.1 hd.1 (by omega) (by omega)]
  simp only [Option.bind_some]
  rw [bits_Add64_eq ha.1 hc.1 (by omega) (by omega)]
  simp only [Option.bind_some, Option.some.injEq, Prod.mk.injEq]
  exact ⟨by omega, by omega, by omega⟩

/-! ### gold_Add -/
theorem gold_Add_eq {a b : Int} (ha : U a) (hb : U b) : gold_Add.f a b = some (un (cv a + cv b)) := by
  unfold gold_Add.f
  rw [gold_Of_eq ha, gold_Of_eq hb]
  simp only [Option.bind_some]
  rw [wide_Add_eq ⟨by omega, by omega⟩ (U_un _) ⟨by omega, by omega⟩ (U_un _)]
  simp only [Option.bind_some]
  have h0 := un_lo (cv a); have h1 := un_hi (cv a); have h2 := un_lo (cv b); have h3 := un_hi (cv b)
  rw [gold_Reduce_eq ⟨by omega, by omega⟩ ⟨by omega, by omega⟩]
  simp only [Option.bind_some]
  have e : cv a + cv b = cv (un (cv a) + un (cv b)) := by rw [cv_add, cv_un, cv_un]
  rw [e]
  congr 2
  exact cv_of_eq 0 (by omega)

/-! ### gold_Dot -/
theorem gold_Dot_loop {a b : List Int} (ha : UL a) (hb : UL b) (hab : a.length = b.length) (hl : a.length < 9223372036854775807) (i : Nat) (hi : i ≤ a.length) :
    ∀ (c hi' lo : Int), 0 ≤ c → c ≤ i → U hi' → U lo → cv (c * 340282366920938463463374607431768211456 + hi' * 18446744073709551616 + lo) = Sm i (fun j => co a j * co b j) →
    Ev (fun k => gold_Dot.l0 k a b c (a.length : Int) (i : Int) hi' lo) (un (Sm a.length (fun j => co a j * co b j)), 0) := by
  have key : ∀ d i, i + d = a.length → ∀ (c hi' lo : Int), 0 ≤ c → c ≤ i → U hi' → U lo → cv (c * 340282366920938463463374607431768211456 + hi' * 18446744073709551616 + lo) = Sm i (fun j => co a j * co b j) →
      Ev (fun k => gold_Dot.l0 k a b c (a.length : Int) (i : Int) hi' lo) (un (Sm a.length (fun j => co a j * co b j)), 0) := by
    intro d
    induction d with
    | zero =>
      intro i hi c h l hc0 hc1 hh hl' e
      obtain rfl : i = a.length := by omega
      refine Ev.step (fun k => gold_Dot.l0.eq_2 ..) ?_
      have hu : U c := ⟨hc0, by omega⟩
      simp -implicitDefEqProofs only [Int.lt_irrefl, if_false, gold_Mul_eq (show U 4294967295 from ⟨by omega, by omega⟩) (show U 4294967295 from ⟨by omega, by omega⟩), Option.bind_some, gold_Mul_eq hu (U_un _), gold_Reduce_eq hh hl', gold_Add_eq (U_un _) (U_un _), cv_un]
      have e2 : cv (h * 18446744073709551616 + l) + cv c * (cv 4294967295 * cv 4294967295) = Sm a.length (fun j => co a j * co b j) := by
        rw [← e, ← cv_mul, ← cv_mul, ← cv_add]
        exact cv_of_eq (-(c * 18446744078004518911)) (by omega)
      rw [e2]
      exact Ev.now _
    | succ d ih =>
      intro i hi c h l hc0 hc1 hh hl' e
      refine Ev.step (fun k => gold_Dot.l0.eq_2 ..) ?_
      have c1 : (i : Int) < (a.length : Int) := by omega
      have c2 : (0 : Int) ≤ (i : Int) := by omega
      have c3 : (i : Int) < (b.length : Int) := by omega
      have hw := U_wide (U_rd ha (i : Int)) (U_rd hb (i : Int))
      simp -implicitDefEqProofs only [c1, c2, c3, if_true, wide_Mul_eq (U_rd ha _) (U_rd hb _), Option.bind_some, wide_Add_eq hh hl' hw.1 hw.2, nat64_succ (show i < 9223372036854775807 by omega)]
      have w1 := hw.1.1; have w2 := hw.1.2; have w3 := hw.2.1; have w4 := hw.2.2
      have a1 := hh.1; have a2 := hh.2; have a3 := hl'.1; have a4 := hl'.2
      have em : (rd a (i : Int) * rd b (i : Int)) = rd a (i : Int) * rd b (i : Int) / 18446744073709551616 * 18446744073709551616 + rd a (i : Int) * rd b (i : Int) % 18446744073709551616 := by omega
      have es : Sm (i + 1) (fun j => co a j * co b j) = cv (c * 340282366920938463463374607431768211456 + h * 18446744073709551616 + l + rd a (i : Int) * rd b (i : Int)) := by
        rw [Sm_succ, cv_add, e, cv_mul, cv_rd, cv_rd]
      rw [em] at es
      generalize rd a (i : Int) * rd b (i : Int) / 18446744073709551616 = p at *
      generalize rd a (i : Int) * rd b (i : Int) % 18446744073709551616 = q at *
      clear em
      have hcar : 0 ≤ (h * 18446744073709551616 + l + (p * 18446744073709551616 + q)) / 340282366920938463463374607431768211456 ∧ (h * 18446744073709551616 + l + (p * 18446744073709551616 + q)) / 340282366920938463463374607431768211456 ≤ 1 := ⟨by omega, by omega⟩
      rw [wu64_of (show U (c + (h * 18446744073709551616 + l + (p * 18446744073709551616 + q)) / 340282366920938463463374607431768211456) from ⟨by omega, by omega⟩)]
      refine ih (i + 1) (by omega) _ _ _ (by omega) (by omega) ⟨by omega, by omega⟩ ⟨by omega, by omega⟩ ?_
      rw [es]
      exact cv_of_eq 0 (by omega)
  exact key (a.length - i) i (by omega)
theorem gold_Dot_ev {a b : List Int} (ha : UL a) (hb : UL b) (hab : a.length = b.length) (hl : a.length < 9223372036854775807) : Ev (fun k => gold_Dot.f k a b) (un (Sm a.length (fun j => co a j * co b j)), 0) := by
  unfold gold_Dot.f
  have c : (a.length : Int) = (b.length : Int) := by omega
  simp -implicitDefEqProofs only [c, if_true]
  have := gold_Dot_loop ha hb hab hl 0 (by omega) 0 0 0 (by omega) (by omega) U_zero U_zero rfl
  rw [c] at this
  exact this
theorem gold_Dot_odd {a b : List Int} (h : a.length ≠ b.length) : Ev (fun k => gold_Dot.f k a b) (0, 19) := by
  unfold gold_Dot.f
  have c : ¬ (a.length : Int) = (b.length : Int) := by omega
  simp -implicitDefEqProofs only [c, if_false]
  exact Ev.now _

/-! ### twid_Slow -/
theorem twid_Slow_last {l : List Int} {k : Nat} {d : Int} (hk : k ≤ 10) (hd : d = 0 ∨ d = 1) (hl : l.length = 2 ^ k) (f : Nat → F) (w : Int) (hf : ∀ i, i < 2 ^ k → f i = dft (2 ^ k) (dr k d) (co l) i) :
    Ev (fun n => twid_Slow.l0 n l d (k : Int) w (tab (2 ^ k) f) ((2 ^ k : Nat) : Int) ((2 ^ k : Nat) : Int)) (tab (2 ^ k) (tf k d (co l)), 0) := by
  have hp := two_pow_lt (n := k) (m := 10) hk
  refine Ev.step (fun n => twid_Slow.l0.eq_2 ..) ?_
  simp -implicitDefEqProofs only [Int.lt_irrefl, if_false]
  rcases hd with rfl | rfl
  · simp -implicitDefEqProofs only [show ¬ (0 : Int) = 1 by omega, if_false]
    rw [tab_congr (g := tf k 0 (co l)) (fun i hi => by unfold tf; rw [if_neg (by omega), hf i hi])]
    exact Ev.now _
  · simp -implicitDefEqProofs only [if_true]
    refine Ev.bind (twid_Share_ev (by omega)) ?_
    have h2 := twid_Scale_ev (UL_tab (2 ^ k) f) (by rw [tab_length]; omega) (U_un (sh k))
    rw [tab_length, cv_un] at h2
    refine Ev.bind h2 ?_
    rw [tab_congr (g := tf k 1 (co l)) (fun i hi => by unfold tf; rw [if_pos rfl, co_tab_lt hi, hf i hi])]
    exact Ev.now _
theorem twid_Slow_ev {l : List Int} (h : UL l) {k : Nat} {d : Int} (hk : k ≤ 10) (hd : d = 0 ∨ d = 1) (hl : l.length = 2 ^ k) : Ev (fun n => twid_Slow.f n l d) (tab (2 ^ k) (tf k d (co l)), 0) := by
  have hp := two_pow_lt (n := k) (m := 10) hk
  unfold twid_Slow.f
  rw [hl, root_Fits_yes (show k ≤ 32 by omega)]
  simp -implicitDefEqProofs only [Option.bind_some, if_true]
  refine Ev.bind (twid_Root_ev (by omega) hd) ?_
  simp -implicitDefEqProofs only [if_true, show ¬ ((2 ^ k : Nat) : Int) > 1024 by omega, if_false, show (0 : Int) ≤ ((2 ^ k : Nat) : Int) by omega, Int.toNat_natCast, show 2 ^ k ≤ 35184372088832 by omega, replicate_tab, tab_length]
  have e0 : tab (2 ^ k) (fun _ => (0 : F)) = tab (2 ^ k) (fun j => if j < 0 then dft (2 ^ k) (dr k d) (co l) j else 0) := tab_congr (fun j hj => by rw [if_neg (by omega)])
  rw [e0]
  refine Ev_loop (2 ^ k) (fun n i => twid_Slow.l0 n l d (k : Int) (un (dr k d)) (tab (2 ^ k) (fun j => if j < i then dft (2 ^ k) (dr k d) (co l) j else 0)) ((2 ^ k : Nat) : Int) (i : Int)) ?_ (fun i hi ih => ?_) 0 (Nat.zero_le _)
  · exact twid_Slow_last hk hd hl _ _ (fun i hi => if_pos hi)
  · refine Ev.step (fun n => twid_Slow.l0.eq_2 ..) ?_
    have c1 : (i : Int) < ((2 ^ k : Nat) : Int) := by omega
    have c2 : (0 : Int) ≤ (i : Int) := by omega
    simp -implicitDefEqProofs only [c1, if_true, wu64_of (U_nat (n := i) (by omega)), hl]
    refine Ev.bind (gold_Pow_ev (U_un _) (U_nat (by omega))) ?_
    refine Ev.bind (root_Powers_ev (U_un _) (by omega)) ?_
    refine Ev.bind (gold_Dot_ev h (UL_tab _ _) (by rw [tab_length, hl]) (by omega)) ?_
    simp -implicitDefEqProofs only [c1, c2, tab_length, if_true, Int.toNat_natCast, cv_un, tab_set, nat64_succ (show i < 9223372036854775807 by omega)]
    have es : Sm l.length (fun j => co l j * co (tab (2 ^ k) (fun t => (dr k d ^ i) ^ t)) j) = dft (2 ^ k) (dr k d) (co l) i := by
      rw [hl]; exact Sm_congr (fun j hj => by rw [co_tab_lt hj])
    have e : tab (2 ^ k) (fun j => if j = i then Sm l.length (fun j => co l j * co (tab (2 ^ k) (fun t => (dr k d ^ i) ^ t)) j) else if j < i then dft (2 ^ k) (dr k d) (co l) j else 0) = tab (2 ^ k) (fun j => if j < i + 1 then dft (2 ^ k) (dr k d) (co l) j else 0) := by
      apply tab_congr
      intro j hj
      by_cases hji : j = i
      · subst hji; rw [if_pos rfl, if_pos (by omega), es]
      · rw [if_neg hji]
        by_cases hh : j < i
        · rw [if_pos hh, if_pos (by omega)]
        · rw [if_neg hh, if_neg (by omega)]
    rw [e]
    exact ih
theorem twid_Slow_no {l : List Int} {d : Int} (h : ∀ j : Nat, j ≤ 32 → (l.length : Int) ≠ ((2 ^ j : Nat) : Int)) : Ev (fun n => twid_Slow.f n l d) ([], 4) := by
  unfold twid_Slow.f
  rw [root_Fits_no h]
  simp -implicitDefEqProofs only [Option.bind_some, show ¬ (false = true) by decide, if_false]
  exact Ev.now _
theorem twid_Slow_kind {l : List Int} {d : Int} {k : Nat} (hk : k ≤ 32) (hl : l.length = 2 ^ k) (hd : ¬ (d = 0 ∨ d = 1)) : Ev (fun n => twid_Slow.f n l d) ([], 18) := by
  unfold twid_Slow.f
  rw [hl, root_Fits_yes hk]
  simp -implicitDefEqProofs only [Option.bind_some, if_true]
  refine Ev.bind (twid_Root_kind (by omega) hd) ?_
  simp -implicitDefEqProofs only [show ¬ (18 : Int) = 0 by omega, if_false]
  exact Ev.now _

/-! ### abacistlaw08_awake -/
theorem abacistlaw08_awake_ev : Ev (fun n => abacistlaw08_awake.f n) true := by
  unfold abacistlaw08_awake.f
  have hu : UL [1, 1] := UL_cons U_one (UL_cons U_one UL_nil)
  refine Ev.bind (twid_Slow_ev (k := 1) hu (by omega) (.inl rfl) rfl) ?_
  have v0 : tf 1 0 (co [1, 1]) 0 = cv 2 := by
    unfold tf; rw [if_neg (by omega)]
    show 0 + cv 1 * (dr 1 0 ^ 0) ^ 0 + cv 1 * (dr 1 0 ^ 0) ^ 1 = cv 2
    rw [show (2 : Int) = 1 + 1 from rfl, cv_add, cv_one]; exact k1 _
  have v1 : tf 1 0 (co [1, 1]) 1 = 0 := by
    unfold tf; rw [if_neg (by omega)]
    show 0 + cv 1 * (dr 1 0 ^ 1) ^ 0 + cv 1 * (dr 1 0 ^ 1) ^ 1 = 0
    rw [dr_fwd, rt_one, cv_one]; exact k2
  rw [show (2 : Nat) ^ 1 = 2 from rfl]
  have r0 := rd_tab (m := 2) (f := tf 1 0 (co [1, 1])) (i := 0) (by omega)
  have r1 := rd_tab (m := 2) (f := tf 1 0 (co [1, 1])) (i := 1) (by omega)
  rw [v0, un_cv_of 2 (by omega) (by omega)] at r0
  rw [v1, un_zero] at r1
  have r0' : rd (tab 2 (tf 1 0 (co [1, 1]))) 0 = 2 := r0
  have r1' : rd (tab 2 (tf 1 0 (co [1, 1]))) 1 = 0 := r1
  simp -implicitDefEqProofs only [tab_length, if_true, r0', r1', show ((2 : Nat) : Int) = 2 from rfl, show (0 : Int) < 2 by omega, show (1 : Int) < 2 by omega, beq_self_eq_true]
  exact Ev.now _
where
  k1 {R : Nat} [NeZero R] (x : Fin R) : 0 + 1 * (x ^ 0) ^ 0 + 1 * (x ^ 0) ^ 1 = 1 + 1 := by grind
  k2 {R : Nat} [NeZero R] : (0 : Fin R) + 1 * ((-1) ^ 1) ^ 0 + 1 * ((-1) ^ 1) ^ 1 = 0 := by grind

/-! ### abacistlaw08_wrong -/
theorem abacistlaw08_wrong_ok {k d : Int} (h : ¬ (k < 0 ∨ 32 < k)) (hd : d = 0 ∨ d = 1) : Ev (fun n => abacistlaw08_wrong.f n k d) 0 := by
  unfold abacistlaw08_wrong.f
  simp -implicitDefEqProofs only [show ¬ k < 0 by omega, if_false, decide_eq_false (show ¬ k > 32 by omega)]
  refine Ev.step (fun n => abacistlaw08_wrong.j0.eq_2 ..) ?_
  rcases hd with rfl | rfl
  · exact Ev.now _
  · exact Ev.now _
theorem abacistlaw08_wrong_arg {k d : Int} (h : k < 0 ∨ 32 < k) : Ev (fun n => abacistlaw08_wrong.f n k d) 1 := by
  have last : Ev (fun n => abacistlaw08_wrong.j0 n d true) 1 := by
    refine Ev.step (fun n => abacistlaw08_wrong.j0.eq_2 ..) ?_
    exact Ev.now _
  unfold abacistlaw08_wrong.f
  by_cases c : k < 0
  · simp -implicitDefEqProofs only [c, if_true]
    exact last
  · simp -implicitDefEqProofs only [c, if_false, decide_eq_true (show k > 32 by omega)]
    exact last
theorem abacistlaw08_wrong_kind {k d : Int} (h : ¬ (k < 0 ∨ 32 < k)) (hd : ¬ (d = 0 ∨ d = 1)) : Ev (fun n => abacistlaw08_wrong.f n k d) 18 := by
  unfold abacistlaw08_wrong.f
  simp -implicitDefEqProofs only [show ¬ k < 0 by omega, if_false, decide_eq_false (show ¬ k > 32 by omega)]
  refine Ev.step (fun n => abacistlaw08_wrong.j0.eq_2 ..) ?_
  simp -implicitDefEqProofs only [show ¬ (false = true) by decide, if_false, show ¬ d = 0 by omega, show ¬ d = 1 by omega]
  exact Ev.now _

/-! ### twid_inside -/
theorem twid_inside_yes {a : Int} (h0 : 0 ≤ a) (h1 : a ≤ 4294967295) : twid_inside.f a = some true := by
  unfold twid_inside.f; rw [if_pos h0, decide_eq_true h1]
theorem twid_inside_no {a : Int} (h : a < 0 ∨ 4294967295 < a) : twid_inside.f a = some false := by
  unfold twid_inside.f
  by_cases c : a ≥ 0
  · rw [if_pos c, decide_eq_false (by omega)]
  · rw [if_neg c]

/-! ### twid_Twiddle -/
theorem twid_Twiddle_arg {a b k d : Int} (h : k < 0 ∨ 32 < k) : Ev (fun n => twid_Twiddle.f n a b k d) (0, 1) := by
  unfold twid_Twiddle.f
  refine Ev.bind (twid_Root_arg h) ?_
  simp -implicitDefEqProofs only [show ¬ (1 : Int) = 0 by omega, if_false]
  exact Ev.now _
theorem twid_Twiddle_kind {a b k d : Int} (h : ¬ (k < 0 ∨ 32 < k)) (hd : ¬ (d = 0 ∨ d = 1)) : Ev (fun n => twid_Twiddle.f n a b k d) (0, 18) := by
  unfold twid_Twiddle.f
  refine Ev.bind (twid_Root_kind h hd) ?_
  simp -implicitDefEqProofs only [show ¬ (18 : Int) = 0 by omega, if_false]
  exact Ev.now _
theorem twid_Twiddle_range {a b : Int} {k : Nat} {d : Int} (hk : k ≤ 32) (hd : d = 0 ∨ d = 1) (h : a < 0 ∨ 4294967295 < a ∨ b < 0 ∨ 4294967295 < b) : Ev (fun n => twid_Twiddle.f n a b (k : Int) d) (0, 2) := by
  unfold twid_Twiddle.f
  refine Ev.bind (twid_Root_ev hk hd) ?_
  by_cases c : a < 0 ∨ 4294967295 < a
  · rw [twid_inside_no c]
    simp -implicitDefEqProofs only [if_true, Option.bind_some, show ¬ (false = true) by decide, if_false]
    exact Ev.now _
  · rw [twid_inside_yes (a := a) (by omega) (by omega), twid_inside_no (a := b) (by omega)]
    simp -implicitDefEqProofs only [if_true, Option.bind_some, show ¬ (false = true) by decide, if_false]
    exact Ev.now _
theorem twid_Twiddle_ev {a b : Nat} {k : Nat} {d : Int} (hk : k ≤ 32) (hd : d = 0 ∨ d = 1) (ha : a ≤ 4294967295) (hb : b ≤ 4294967295) : Ev (fun n => twid_Twiddle.f n (a : Int) (b : Int) (k : Int) d) (un (dr k d ^ (a * b)), 0) := by
  unfold twid_Twiddle.f
  refine Ev.bind (twid_Root_ev hk hd) ?_
  rw [twid_inside_yes (a := (a : Int)) (by omega) (by omega), twid_inside_yes (a := (b : Int)) (by omega) (by omega)]
  have hm : a * b ≤ 4294967295 * 4294967295 := Nat.mul_le_mul ha hb
  have hu : U ((a * b : Nat) : Int) := U_nat (by omega)
  simp -implicitDefEqProofs only [if_true, Option.bind_some, wu64_of (U_nat (n := a) (by omega)), wu64_of (U_nat (n := b) (by omega))]
  rw [← Int.natCast_mul, wu64_of hu]
  refine Ev.bind (gold_Pow_ev (U_un _) hu) ?_
  rw [cv_un, Int.toNat_natCast]
  exact Ev.now _

/-! ### shape_Good -/
theorem shape_Good_yes {i j : Nat} (hi : i ≤ 32) (hj : j ≤ 32) : shape_Good.f ((2 ^ i : Nat) : Int) ((2 ^ j : Nat) : Int) = some (decide (i + j ≤ 32)) := by
  unfold shape_Good.f
  rw [root_Fits_yes hi, root_Fits_yes hj]
  simp -implicitDefEqProofs only [Option.bind_some, if_true, add64 (show i + j < 9223372036854775808 by omega)]
  by_cases c : i + j ≤ 32
  · rw [decide_eq_true c, decide_eq_true (by omega)]
  · rw [decide_eq_false c, decide_eq_false (by omega)]
theorem shape_Good_no {a b : Int} (h : (∀ j : Nat, j ≤ 32 → a ≠ ((2 ^ j : Nat) : Int)) ∨ (∀ j : Nat, j ≤ 32 → b ≠ ((2 ^ j : Nat) : Int))) : shape_Good.f a b = some false := by
  unfold shape_Good.f
  rcases fits_cases a with ⟨i, hi, rfl⟩ | ha
  · rw [root_Fits_yes hi, root_Fits_no (h.resolve_left (fun h1 => h1 i hi rfl))]
    rfl
  · rw [root_Fits_no ha]
    rcases fits_cases b with ⟨j, hj, rfl⟩ | hb
    · rw [root_Fits_yes hj]; rfl
    · rw [root_Fits_no hb]; rfl

/-! ### twid_reaches -/
theorem twid_reaches_yes {R C a b : Nat} (hR0 : 1 ≤ R) (hC0 : 1 ≤ C) (hR : a + R ≤ 4294967296) (hC : b + C ≤ 4294967296) : twid_reaches.f (R : Int) (C : Int) (a : Int) (b : Int) = some true := by
  unfold twid_reaches.f
  rw [twid_inside_yes (a := (a : Int)) (by omega) (by omega), twid_inside_yes (a := (b : Int)) (by omega) (by omega)]
  have e1 : wrap64 ((R : Int) - 1) ≤ wrap64 (4294967295 - (a : Int)) := by unfold wrap64; omega
  have e2 : wrap64 ((C : Int) - 1) ≤ wrap64 (4294967295 - (b : Int)) := by unfold wrap64; omega
  simp -implicitDefEqProofs only [Option.bind_some, if_true, e1, decide_eq_true e2]
theorem twid_reaches_no {R C : Nat} {a b : Int} (hR0 : 1 ≤ R) (hC0 : 1 ≤ C) (hR : R ≤ 4294967296) (hC : C ≤ 4294967296) (h : a < 0 ∨ b < 0 ∨ 4294967296 < a + R ∨ 4294967296 < b + C) : twid_reaches.f (R : Int) (C : Int) a b = some false := by
  unfold twid_reaches.f
  by_cases ca : a < 0 ∨ 4294967295 < a
  · rw [twid_inside_no ca]; rfl
  · rw [twid_inside_yes (a := a) (by omega) (by omega)]
    by_cases cb : b < 0 ∨ 4294967295 < b
    · rw [twid_inside_no cb]; rfl
    · rw [twid_inside_yes (a := b) (by omega) (by omega)]
      simp -implicitDefEqProofs only [Option.bind_some, if_true]
      by_cases e1 : wrap64 ((R : Int) - 1) ≤ wrap64 (4294967295 - a)
      · have e2 : ¬ wrap64 ((C : Int) - 1) ≤ wrap64 (4294967295 - b) := by unfold wrap64 at e1 ⊢; omega
        rw [if_pos e1, decide_eq_false e2]
      · rw [if_neg e1]

/-! ### twid_Tile -/
/-- What stands at place m of a tile of C columns. -/
def tl (k : Nat) (d : Int) (C a b : Nat) (f : Nat → F) (m : Nat) : F := f m * dr k d ^ ((a + m / C) * (b + m % C))
theorem twid_Tile_l1 {l : List Int} (hu : UL l) {k : Nat} {d : Int} {R C a b : Nat} (hC0 : 1 ≤ C) (hl : l.length = R * C) (hl64 : l.length ≤ 64) {r : Nat} (hr : r < R) {res : List Int × Int}
    (ih : Ev (fun n => twid_Tile.l0 n l (un (dr k d)) (tab ((r + 1) * C) (tl k d C a b (co l))) (R : Int) ((r + 1 : Nat) : Int) (R : Int) (C : Int) (a : Int) (b : Int)) res) :
    Ev (fun n => twid_Tile.l1 n l (un (dr k d)) (tab (r * C) (tl k d C a b (co l))) (un (dr k d ^ (a + r))) (un ((dr k d ^ (a + r)) ^ b)) (R : Int) (r : Int) ((l.take ((r + 1) * C)).drop (r * C)) (C : Int) 0 (R : Int) (C : Int) (a : Int) (b : Int)) res := by
  have hm : (r + 1) * C ≤ R * C := Nat.mul_le_mul_right C hr
  have hs : (r + 1) * C = r * C + C := Nat.succ_mul r C
  have hrR : r < 64 := by
    have : r + 1 ≤ (r + 1) * C := Nat.le_mul_of_pos_right _ hC0
    omega
  have hlen : ((l.take ((r + 1) * C)).drop (r * C)).length = C := by rw [List.length_drop, List.length_take]; omega
  have e0 : un ((dr k d ^ (a + r)) ^ b) = un ((dr k d ^ (a + r)) ^ (b + 0)) := by rw [Nat.add_zero]
  rw [e0]
  refine Ev_loop C (fun n c => twid_Tile.l1 n l (un (dr k d)) (tab (r * C + c) (tl k d C a b (co l))) (un (dr k d ^ (a + r))) (un ((dr k d ^ (a + r)) ^ (b + c))) (R : Int) (r : Int) ((l.take ((r + 1) * C)).drop (r * C)) (C : Int) (c : Int) (R : Int) (C : Int) (a : Int) (b : Int)) ?_ (fun c hc ih2 => ?_) 0 (Nat.zero_le _)
  · refine Ev.step (fun n => twid_Tile.l1.eq_2 ..) ?_
    simp -implicitDefEqProofs only [Int.lt_irrefl, if_false, nat64_succ (show r < 9223372036854775807 by omega)]
    rw [← hs]
    exact ih
  · refine Ev.step (fun n => twid_Tile.l1.eq_2 ..) ?_
    have ux : UL ((l.take ((r + 1) * C)).drop (r * C)) := UL_drop (UL_take hu _) _
    have ec : co ((l.take ((r + 1) * C)).drop (r * C)) c = co l (r * C + c) := by rw [co_drop, co_take (by omega)]
    rw [hlen]
    have ev1 : co l (r * C + c) * (dr k d ^ (a + r)) ^ (b + c) = tl k d C a b (co l) (r * C + c) := by
      unfold tl
      have h1 : (r * C + c) / C = r := by rw [Nat.mul_comm, Nat.mul_add_div hC0, Nat.div_eq_of_lt hc, Nat.add_zero]
      have h2 : (r * C + c) % C = c := by rw [Nat.mul_comm, Nat.mul_add_mod]; exact Nat.mod_eq_of_lt hc
      rw [h1, h2, pow_mul']
    have ev2 : (dr k d ^ (a + r)) ^ (b + c) * dr k d ^ (a + r) = (dr k d ^ (a + r)) ^ (b + (c + 1)) := by rw [← Nat.add_assoc]; exact k1 _ _
    simp -implicitDefEqProofs only [show (c : Int) < (C : Int) by omega, show (0 : Int) ≤ (c : Int) by omega, if_true, gold_Mul_eq (U_rd ux _) (U_un _), gold_Mul_eq (U_un _) (U_un _), Option.bind_some, tab_length, show r * C + c < 17592186044416 by omega, cv_rd, cv_un, ec, ev1, ev2, nat64_succ (show c < 9223372036854775807 by omega)]
    rw [← tab_succ]
    exact ih2
where
  k1 {R : Nat} [NeZero R] (x : Fin R) (n : Nat) : x ^ n * x = x ^ (n + 1) := by grind
theorem twid_Tile_l0 {l : List Int} (hu : UL l) {k : Nat} {d : Int} {R C a b : Nat} (hC0 : 1 ≤ C) (hR0 : 1 ≤ R) (hl : l.length = R * C) (hl64 : l.length ≤ 64) (ha : a + R ≤ 4294967296) (hb : b + C ≤ 4294967296) :
    Ev (fun n => twid_Tile.l0 n l (un (dr k d)) [] (R : Int) 0 (R : Int) (C : Int) (a : Int) (b : Int)) (tab (R * C) (tl k d C a b (co l)), 0) := by
  have e0 : ([] : List Int) = tab (0 * C) (tl k d C a b (co l)) := by rw [Nat.zero_mul, tab_nil]
  rw [e0]
  refine Ev_loop R (fun n r => twid_Tile.l0 n l (un (dr k d)) (tab (r * C) (tl k d C a b (co l))) (R : Int) (r : Int) (R : Int) (C : Int) (a : Int) (b : Int)) ?_ (fun r hr ih => ?_) 0 (Nat.zero_le _)
  · refine Ev.step (fun n => twid_Tile.l0.eq_2 ..) ?_
    simp -implicitDefEqProofs only [Int.lt_irrefl, if_false]
    exact Ev.now _
  · have hm : (r + 1) * C ≤ R * C := Nat.mul_le_mul_right C hr
    have hs : (r + 1) * C = r * C + C := Nat.succ_mul r C
    have hrR : r < 64 := by
      have : r + 1 ≤ (r + 1) * C := Nat.le_mul_of_pos_right _ hC0
      omega
    have hlen : ((l.take ((r + 1) * C)).drop (r * C)).length = C := by rw [List.length_drop, List.length_take]; omega
    have c1 : (r : Int) < (R : Int) := by omega
    have c2 : (0 : Int) ≤ ((r * C : Nat) : Int) := Int.natCast_nonneg _
    have c3 : ((r * C : Nat) : Int) ≤ (((r + 1) * C : Nat) : Int) := by omega
    have c4 : (((r + 1) * C : Nat) : Int) ≤ (l.length : Int) := by omega
    have u1 : U ((a + r : Nat) : Int) := U_nat (by omega)
    have u2 : U (b : Int) := U_nat (by omega)
    have b3 : -9223372036854775808 ≤ ((r * C : Nat) : Int) ∧ ((r * C : Nat) : Int) < 9223372036854775808 := ⟨by omega, by omega⟩
    have b4 : -9223372036854775808 ≤ (((r + 1) * C : Nat) : Int) ∧ (((r + 1) * C : Nat) : Int) < 9223372036854775808 := ⟨by omega, by omega⟩
    have e1 : IntKind.u64.wrap (wrap64 ((a : Int) + (r : Int))) = ((a + r : Nat) : Int) := by rw [add64 (by omega)]; exact wu64_of u1
    have e4 : wrap64 (wrap64 ((r : Int) + 1) * (C : Int)) = (((r + 1) * C : Nat) : Int) := by rw [nat64_succ (show r < 9223372036854775807 by clear e1; omega), ← Int.natCast_mul]; exact wrap64_of b4.1 b4.2
    have e2 : IntKind.u64.wrap (b : Int) = (b : Int) := wu64_of u2
    have e3 : wrap64 ((r : Int) * (C : Int)) = ((r * C : Nat) : Int) := by rw [← Int.natCast_mul]; exact wrap64_of b3.1 b3.2
    refine Ev.step (fun n => twid_Tile.l0.eq_2 ..) ?_
    simp -implicitDefEqProofs only [c1, if_true, e1, e2, e3, e4]
    clear e1 e2 e3 e4
    refine Ev.bind (gold_Pow_ev (U_un _) u1) ?_
    rw [cv_un, Int.toNat_natCast]
    refine Ev.bind (gold_Pow_ev (U_un _) u2) ?_
    rw [cv_un, Int.toNat_natCast]
    simp -implicitDefEqProofs only [c2, c3, c4, if_true, Int.toNat_natCast, hlen]
    exact twid_Tile_l1 hu hC0 hl hl64 hr ih
theorem twid_Tile_arg {l : List Int} {R C a b k d : Int} (h : k < 0 ∨ 32 < k) : Ev (fun n => twid_Tile.f n l R C a b k d) ([], 1) := by
  unfold twid_Tile.f
  refine Ev.bind (twid_Root_arg h) ?_
  simp -implicitDefEqProofs only [show ¬ (1 : Int) = 0 by omega, if_false]
  exact Ev.now _
theorem twid_Tile_kind {l : List Int} {R C a b k d : Int} (h : ¬ (k < 0 ∨ 32 < k)) (hd : ¬ (d = 0 ∨ d = 1)) : Ev (fun n => twid_Tile.f n l R C a b k d) ([], 18) := by
  unfold twid_Tile.f
  refine Ev.bind (twid_Root_kind h hd) ?_
  simp -implicitDefEqProofs only [show ¬ (18 : Int) = 0 by omega, if_false]
  exact Ev.now _
theorem twid_Tile_j0_odd {l : List Int} {w R C a b : Int} : Ev (fun n => twid_Tile.j0 n l w true R C a b) ([], 19) := by
  refine Ev.step (fun n => twid_Tile.j0.eq_2 ..) ?_
  exact Ev.now _
theorem twid_Tile_odd {l : List Int} {R C a b d : Int} {k : Nat} (hk : k ≤ 32) (hd : d = 0 ∨ d = 1) (h : shape_Good.f R C = some false ∨ shape_Good.f R C = some true ∧ (l.length : Int) ≠ wrap64 (R * C)) : Ev (fun n => twid_Tile.f n l R C a b (k : Int) d) ([], 19) := by
  unfold twid_Tile.f
  refine Ev.bind (twid_Root_ev hk hd) ?_
  rcases h with h | ⟨h, hne⟩
  · rw [h]
    simp -implicitDefEqProofs only [if_true, Option.bind_some]
    exact twid_Tile_j0_odd
  · rw [h, bne_iff_ne.2 hne]
    simp -implicitDefEqProofs only [if_true, Option.bind_some]
    exact twid_Tile_j0_odd
theorem twid_Tile_range {l : List Int} {R C a b d : Int} {k : Nat} (hk : k ≤ 32) (hd : d = 0 ∨ d = 1) (h : shape_Good.f R C = some true) (he : (l.length : Int) = wrap64 (R * C)) (hr : twid_reaches.f R C a b = some false) : Ev (fun n => twid_Tile.f n l R C a b (k : Int) d) ([], 2) := by
  have last : Ev (fun n => twid_Tile.j0 n l (un (dr k d)) false R C a b) ([], 2) := by
    refine Ev.step (fun n => twid_Tile.j0.eq_2 ..) ?_
    rw [hr]
    exact Ev.now _
  unfold twid_Tile.f
  refine Ev.bind (twid_Root_ev hk hd) ?_
  rw [h, ← he, bne_self_eq_false]
  simp -implicitDefEqProofs only [if_true, Option.bind_some]
  exact last
theorem twid_Tile_ev {l : List Int} (hu : UL l) {R C a b : Nat} {d : Int} {k : Nat} (hk : k ≤ 32) (hd : d = 0 ∨ d = 1) (h : shape_Good.f (R : Int) (C : Int) = some true) (hC0 : 1 ≤ C) (hR0 : 1 ≤ R) (hl : l.length = R * C) (hl64 : l.length ≤ 64) (ha : a + R ≤ 4294967296) (hb : b + C ≤ 4294967296) :
    Ev (fun n => twid_Tile.f n l (R : Int) (C : Int) (a : Int) (b : Int) (k : Int) d) (tab (R * C) (tl k d C a b (co l)), 0) := by
  have he : (l.length : Int) = wrap64 ((R : Int) * (C : Int)) := by rw [← Int.natCast_mul, wrap64_of (by omega) (by omega), hl]
  have last : Ev (fun n => twid_Tile.j0 n l (un (dr k d)) false (R : Int) (C : Int) (a : Int) (b : Int)) (tab (R * C) (tl k d C a b (co l)), 0) := by
    refine Ev.step (fun n => twid_Tile.j0.eq_2 ..) ?_
    rw [twid_reaches_yes hR0 hC0 ha hb]
    have step : Ev (fun n => if 0 ≤ (l.length : Int) then (if ((l.length : Int) : Int).toNat ≤ 35184372088832 then (twid_Tile.l0 n l (un (dr k d)) (([] : List Int)) (R : Int) 0 (R : Int) (C : Int) (a : Int) (b : Int)) else (none)) else (none)) (tab (R * C) (tl k d C a b (co l)), 0) := by
      simp -implicitDefEqProofs only [show (0 : Int) ≤ (l.length : Int) by omega, Int.toNat_natCast, show l.length ≤ 35184372088832 by omega, if_true]
      exact twid_Tile_l0 hu hC0 hR0 hl hl64 ha hb
    exact step
  unfold twid_Tile.f
  refine Ev.bind (twid_Root_ev hk hd) ?_
  rw [h, ← he, bne_self_eq_false]
  simp -implicitDefEqProofs only [if_true, Option.bind_some]
  exact last

/-! ### abacistref03_Fits -/
theorem ref03_fits_round {a : Int} {i : Nat} (hi : i ≤ 32) (h0 : a ≠ ((2 ^ i : Nat) : Int)) {r : Int} (ih : Ev (fun k => abacistref03_Fits.l0 k a ((2 ^ (i + 1) : Nat) : Int) ((i + 1 : Nat) : Int)) r) : Ev (fun k => abacistref03_Fits.l0 k a ((2 ^ i : Nat) : Int) (i : Int)) r := by
  have h2 := two_pow_lt (n := i) (m := 32) hi
  refine Ev.step (fun k => abacistref03_Fits.l0.eq_2 ..) ?_
  have e : wrap64 (2 * ((2 ^ i : Nat) : Int)) = ((2 ^ (i + 1) : Nat) : Int) := by
    rw [Nat.pow_succ]; generalize 2 ^ i = q at *; unfold wrap64; omega
  simp -implicitDefEqProofs only [show (i : Int) ≤ 32 by omega, if_true, h0, if_false, e, nat64_succ (show i < 9223372036854775807 by omega)]
  exact ih
theorem abacistref03_Fits_yes {m : Nat} (hm : m ≤ 32) : Ev (fun k => abacistref03_Fits.f k ((2 ^ m : Nat) : Int)) (m : Int) := by
  unfold abacistref03_Fits.f
  refine Ev_loop m (fun k i => abacistref03_Fits.l0 k ((2 ^ m : Nat) : Int) ((2 ^ i : Nat) : Int) (i : Int)) ?_ (fun i hi ih => ref03_fits_round (by omega) (fun h => by have h1 := Nat.pow_lt_pow_right (a := 2) (by omega) hi; omega) ih) 0 (Nat.zero_le _)
  refine Ev.step (fun k => abacistref03_Fits.l0.eq_2 ..) ?_
  simp -implicitDefEqProofs only [show (m : Int) ≤ 32 by omega, if_true]
  exact Ev.now _
theorem abacistref03_Fits_no {a : Int} (h0 : ∀ j : Nat, j ≤ 32 → a ≠ ((2 ^ j : Nat) : Int)) : Ev (fun k => abacistref03_Fits.f k a) (-1) := by
  unfold abacistref03_Fits.f
  refine Ev_loop 33 (fun k i => abacistref03_Fits.l0 k a ((2 ^ i : Nat) : Int) (i : Int)) ?_ (fun i hi ih => ref03_fits_round (by omega) (h0 i (by omega)) ih) 0 (Nat.zero_le _)
  refine Ev.step (fun k => abacistref03_Fits.l0.eq_2 ..) ?_
  simp -implicitDefEqProofs only [show ¬ ((33 : Nat) : Int) ≤ 32 by omega, if_false]
  exact Ev.now _

/-! ### abacistref06_Good -/
theorem abacistref06_Good_yes {i j : Nat} (hi : i ≤ 32) (hj : j ≤ 32) : Ev (fun n => abacistref06_Good.f n ((2 ^ i : Nat) : Int) ((2 ^ j : Nat) : Int)) (decide (i + j ≤ 32)) := by
  unfold abacistref06_Good.f
  refine Ev.bind (abacistref03_Fits_yes hi) ?_
  refine Ev.bind (abacistref03_Fits_yes hj) ?_
  simp -implicitDefEqProofs only [show (i : Int) ≥ 0 by omega, show (j : Int) ≥ 0 by omega, if_true, add64 (show i + j < 9223372036854775808 by omega)]
  by_cases c : i + j ≤ 32
  · rw [decide_eq_true c, decide_eq_true (by omega)]; exact Ev.now _
  · rw [decide_eq_false c, decide_eq_false (by omega)]; exact Ev.now _
theorem abacistref06_Good_no {a b : Int} (h : (∀ j : Nat, j ≤ 32 → a ≠ ((2 ^ j : Nat) : Int)) ∨ (∀ j : Nat, j ≤ 32 → b ≠ ((2 ^ j : Nat) : Int))) : Ev (fun n => abacistref06_Good.f n a b) false := by
  unfold abacistref06_Good.f
  rcases fits_cases a with ⟨i, hi, rfl⟩ | ha
  · refine Ev.bind (abacistref03_Fits_yes hi) ?_
    refine Ev.bind (abacistref03_Fits_no (h.resolve_left (fun h1 => h1 i hi rfl))) ?_
    simp -implicitDefEqProofs only [show (i : Int) ≥ 0 by omega, show ¬ (-1 : Int) ≥ 0 by omega, if_true, if_false]
    exact Ev.now _
  · refine Ev.bind (abacistref03_Fits_no ha) ?_
    rcases fits_cases b with ⟨j, hj, rfl⟩ | hb
    · refine Ev.bind (abacistref03_Fits_yes hj) ?_
      simp -implicitDefEqProofs only [show ¬ (-1 : Int) ≥ 0 by omega, if_false]
      exact Ev.now _
    · refine Ev.bind (abacistref03_Fits_no hb) ?_
      simp -implicitDefEqProofs only [show ¬ (-1 : Int) ≥ 0 by omega, if_false]
      exact Ev.now _

/-! ### abacistref02_Of -/
theorem abacistref02_Of_eq {a : Int} (h : 0 ≤ a) : abacistref02_Of.f a = some (un (cv a)) := by
  unfold abacistref02_Of.f
  rw [un_cv, Int.tmod_eq_emod_of_nonneg h]

/-! ### abacistref02_Add -/
theorem abacistref02_Add_eq {a b : Int} (ha : 0 ≤ a) (hb : 0 ≤ b) : abacistref02_Add.f a b = some (un (cv a + cv b)) := by
  unfold abacistref02_Add.f
  rw [abacistref02_Of_eq ha, abacistref02_Of_eq hb]
  simp only [Option.bind_some]
  have h0 := un_lo (cv a); have h1 := un_hi (cv a); have h2 := un_lo (cv b); have h3 := un_hi (cv b)
  rw [un_add]
  simp only [wu64]
  have e : (18446744069414584321 - un (cv b)) % 18446744073709551616 = 18446744069414584321 - un (cv b) := by omega
  rw [e]
  split <;> congr 1 <;> omega

/-! ### abacistref02_Mul -/
theorem abacistref02_Mul_l0_ev : ∀ (m : Nat) (n : Nat) (x y : F), n < 2 ^ m → n < 18446744073709551616 → Ev (fun k => abacistref02_Mul.l0 k (un x) (n : Int) (un y)) (un (y + x * cv n))
  | 0, n, x, y, h, _ => by
    obtain rfl : n = 0 := by simpa using h
    refine Ev.step (f := fun _ => some (un y)) (fun k => ?_) ?_
    · simp only [abacistref02_Mul.l0]; rw [if_neg (by omega)]
    · have : y + x * cv ((0 : Nat) : Int) = y := by rw [show cv ((0 : Nat) : Int) = 0 from rfl]; grind
      rw [this]; exact Ev.now _
  | m + 1, n, x, y, h, hn => by
    have hm : n / 2 < 2 ^ m := by rw [Nat.pow_succ] at h; omega
    have e2 : IntKind.u64.wrap (Int.tdiv (n : Int) 2) = ((n / 2 : Nat) : Int) := by
      rw [Int.tdiv_eq_ediv_of_nonneg (by omega), wu64]; omega
    by_cases h0 : n = 0
    · subst h0
      refine Ev.step (f := fun _ => some (un y)) (fun k => ?_) ?_
      · simp only [abacistref02_Mul.l0]; rw [if_neg (by omega)]
      · have : y + x * cv ((0 : Nat) : Int) = y := by rw [show cv ((0 : Nat) : Int) = 0 from rfl]; grind
        rw [this]; exact Ev.now _
    · have em : Int.tmod (n : Int) 2 = (n : Int) % 2 := Int.tmod_eq_emod_of_nonneg (by omega)
      by_cases h1 : n % 2 = 1
      · refine Ev.step (f := fun k => abacistref02_Mul.l0 k (un (x + x)) ((n / 2 : Nat) : Int) (un (y + x))) (fun k => ?_) ?_
        · simp only [abacistref02_Mul.l0]
          rw [if_pos (by omega), em, if_pos (by omega), abacistref02_Add_eq (un_lo _) (un_lo _), abacistref02_Add_eq (un_lo _) (un_lo _), e2]
          simp only [Option.bind_some, cv_un]
        · have ih := abacistref02_Mul_l0_ev m (n / 2) (x + x) (y + x) hm (by omega)
          have e : y + x + (x + x) * cv ((n / 2 : Nat) : Int) = y + x * cv n := by
            have : (n : Int) = (1 + (((n / 2 : Nat) : Int) + ((n / 2 : Nat) : Int))) := by omega
            rw [this, cv_add, cv_add, cv_one]; grind
          rw [e] at ih; exact ih
      · refine Ev.step (f := fun k => abacistref02_Mul.l0 k (un (x + x)) ((n / 2 : Nat) : Int) (un y)) (fun k => ?_) ?_
        · simp only [abacistref02_Mul.l0]
          rw [if_pos (by omega), em, if_neg (by omega), abacistref02_Add_eq (un_lo _) (un_lo _), e2]
          simp only [Option.bind_some, cv_un]
        · have ih := abacistref02_Mul_l0_ev m (n / 2) (x + x) y hm (by omega)
          have e : y + (x + x) * cv ((n / 2 : Nat) : Int) = y + x * cv n := by
            have : (n : Int) = (((n / 2 : Nat) : Int) + ((n / 2 : Nat) : Int)) := by omega
            rw [this, cv_add]; grind
          rw [e] at ih; exact ih
theorem abacistref02_Mul_ev {a n : Int} (ha : 0 ≤ a) (hn : U n) : Ev (fun k => abacistref02_Mul.f k a n) (un (cv a * cv n)) := by
  have h := abacistref02_Mul_l0_ev 64 n.toNat (cv a) 0 (by have := hn.2; omega) (by have := hn.2; omega)
  rw [un_zero, Int.toNat_of_nonneg hn.1] at h
  have e : 0 + cv a * cv n = cv a * cv n := by grind
  rw [e] at h
  refine Ev.congr (fun k => ?_) h
  unfold abacistref02_Mul.f
  rw [abacistref02_Of_eq ha]; rfl

end Go.Proofs.YtlifdpaamcdmfaaDoor.BTwidTiles
