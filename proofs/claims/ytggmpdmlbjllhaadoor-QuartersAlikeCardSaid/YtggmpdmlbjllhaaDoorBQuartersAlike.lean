/- What each function of the law QuartersAlike answers, in the field's own words: plain contracts over the printed functions. -/
import Derived.Test.YtggmpdmlbjllhaaDoorPQuartersAlikex0
import Derived.Test.YtggmpdmlbjllhaaDoorPQuartersAlikex1
import Derived.Test.YtggmpdmlbjllhaaDoorPQuartersAlikex2
import Derived.Test.YtggmpdmlbjllhaaDoorPQuartersAlikex3
import Derived.Test.YtggmpdmlbjllhaaDoorPQuartersAlikex4
import Derived.Test.YtggmpdmlbjllhaaDoorPQuartersAlikex5
import Derived.Test.YtggmpdmlbjllhaaDoorPQuartersAlikex6
import Derived.Test.YtggmpdmlbjllhaaDoorM14
namespace Go.Proofs.YtggmpdmlbjllhaaDoor.BQuartersAlike
set_option linter.unusedVariables false
set_option linter.unusedSimpArgs false
open Go Go.RowKit Go.Proofs.YtggmpdmlbjllhaaDoor.M Go.Proofs.YtggmpdmlbjllhaaDoor.PQuartersAlike Go.Proofs.YtggmpdmlbjllhaaDoorW.PrintWords Go.Proofs.YtggmpdmlbjllhaaDoorW.PrintLast Go.Proofs.YtggmpdmlbjllhaaDoorW.PrintMore
/-! Numbers of 64 bits, and what the words of the print do with them. -/
def U (a : Int) : Prop := 0 ≤ a ∧ a < 18446744073709551616
theorem U_un (x : F) : U (un x) := ⟨un_lo x, by have := un_hi x; omega⟩
theorem U_of_wf {a : Int} (h : (Lit.int .u64 a).wf = true) : U a := by
  simp [Lit.wf, IntKind.min, IntKind.max, IntKind.signed, IntKind.bits] at h
  exact ⟨by omega, by omega⟩
theorem i64_of_wf {a : Int} (h : (Lit.int .i64 a).wf = true) : -9223372036854775808 ≤ a ∧ a ≤ 9223372036854775807 := by
  simp [Lit.wf, IntKind.min, IntKind.max, IntKind.signed, IntKind.bits] at h
  exact ⟨by omega, by omega⟩
theorem u32_of_wf {a : Int} (h : (Lit.int .u32 a).wf = true) : 0 ≤ a ∧ a ≤ 4294967295 := by
  simp [Lit.wf, IntKind.min, IntKind.max, IntKind.signed, IntKind.bits] at h
  exact ⟨by omega, by omega⟩
theorem u8_of_wf {a : Int} (h : (Lit.int .u8 a).wf = true) : 0 ≤ a ∧ a ≤ 255 := by
  simp [Lit.wf, IntKind.min, IntKind.max, IntKind.signed, IntKind.bits] at h
  exact ⟨by omega, by omega⟩
theorem wu64 (a : Int) : IntKind.u64.wrap a = a % 18446744073709551616 := by simp [IntKind.wrap, IntKind.bits, IntKind.signed]
theorem wu64_of {a : Int} (h : U a) : IntKind.u64.wrap a = a := by rw [wu64]; have := h.1; have := h.2; omega
theorem U_wrap (a : Int) : U (IntKind.u64.wrap a) := by rw [wu64]; exact ⟨by omega, by omega⟩
theorem and_low {a : Int} (h : U a) : Go.bits .and .u64 a 4294967295 = a % 4294967296 := by
  have := bits_mask .u64 64 (by decide) (fun n h0 h1 => by rw [wu64]; omega) 32 (by decide) a h.1 (by have := h.2; omega)
  simpa using this
theorem and_one {a : Int} (h : U a) : Go.bits .and .u64 a 1 = a % 2 := by
  have := bits_mask .u64 64 (by decide) (fun n h0 h1 => by rw [wu64]; omega) 1 (by decide) a h.1 (by have := h.2; omega)
  simpa using this
theorem wrap64_of {a : Int} (h0 : -9223372036854775808 ≤ a) (h1 : a < 9223372036854775808) : wrap64 a = a := by unfold wrap64; omega
/-- Rows of words. -/
def UL (l : List Int) : Prop := ∀ x ∈ l, U x
theorem UL_of_wf {l : List Int} (h : ∀ x ∈ l, (Lit.int .u64 x).wf = true) : UL l := fun x hx => U_of_wf (h x hx)
theorem U_zero : U 0 := ⟨by omega, by omega⟩
theorem U_one : U 1 := ⟨by omega, by omega⟩
theorem U_getD {l : List Int} (h : UL l) (i : Nat) : U (l.getD i 0) := by
  rw [List.getD_eq_getElem?_getD]
  by_cases hi : i < l.length
  · rw [List.getElem?_eq_getElem hi]; exact h _ (List.getElem_mem hi)
  · rw [List.getElem?_eq_none (by omega)]; exact U_zero
theorem U_rd {l : List Int} (h : UL l) (i : Int) : U (rd l i) := U_getD h _
theorem UL_tab (m : Nat) (f : Nat → F) : UL (tab m f) := by
  intro x hx
  unfold tab at hx
  obtain ⟨j, _, rfl⟩ := List.mem_map.1 hx
  exact U_un _
theorem UL_nil : UL [] := fun x hx => by cases hx
theorem rd_nat (l : List Int) (i : Nat) : rd l (i : Int) = l.getD i 0 := by unfold rd; rw [Int.toNat_natCast]
theorem cv_rd (l : List Int) (i : Nat) : cv (rd l (i : Int)) = co l i := by rw [rd_nat]; rfl
theorem rd_tab {m : Nat} {f : Nat → F} {i : Nat} (h : i < m) : rd (tab m f) (i : Int) = un (f i) := by rw [rd_nat, tab_getD m f i h]
theorem nat64_succ {i : Nat} (h : i < 9223372036854775807) : wrap64 ((i : Int) + 1) = ((i + 1 : Nat) : Int) := by unfold wrap64; omega
theorem nat64_pred {i : Nat} (h : i < 9223372036854775807) : wrap64 ((i + 1 : Nat) - 1 : Int) = (i : Int) := by unfold wrap64; omega
/-- A loop that counts up. -/
theorem Ev_loop {α : Type} {r : α} (n : Nat) (g : Nat → Nat → Option α) (last : Ev (fun k => g k n) r) (step : ∀ i, i < n → Ev (fun k => g k (i + 1)) r → Ev (fun k => g k i) r) (i : Nat) (hi : i ≤ n) : Ev (fun k => g k i) r := by
  have key : ∀ d i, i + d = n → Ev (fun k => g k i) r := by
    intro d
    induction d with
    | zero => intro i hi; obtain rfl : i = n := by omega
              exact last
    | succ d ih => intro i hi; exact step i (by omega) (ih (i + 1) (by omega))
  exact key (n - i) i (by omega)
/-- A loop that counts down. -/
theorem Ev_down {α : Type} {r : α} (n : Nat) (g : Nat → Nat → Option α) (last : Ev (fun k => g k 0) r) (step : ∀ i, i < n → Ev (fun k => g k i) r → Ev (fun k => g k (i + 1)) r) : Ev (fun k => g k n) r := by
  have key : ∀ i, i ≤ n → Ev (fun k => g k i) r := by
    intro i
    induction i with
    | zero => intro _; exact last
    | succ i ih => intro hi; exact step i (by omega) (ih (by omega))
  exact key n (Nat.le_refl n)
theorem down_at (i : Nat) : (((i + 1 : Nat) : Int) - 1) = (i : Int) := by omega
theorem down_next {i : Nat} (h : i < 9223372036854775807) : wrap64 ((i : Int) - 1) = (i : Int) - 1 := by unfold wrap64; omega
theorem len64 {n : Nat} (h : n < 9223372036854775807) : wrap64 ((n : Int) - 1) = (n : Int) - 1 := by unfold wrap64; omega
theorem U_nat {n : Nat} (h : n < 18446744073709551616) : U (n : Int) := ⟨Int.natCast_nonneg _, by omega⟩
theorem two_pow_lt {n m : Nat} (h : n ≤ m) : 2 ^ n ≤ 2 ^ m := Nat.pow_le_pow_right (by omega) h
theorem U_two_pow {n : Nat} (h : n ≤ 63) : U ((2 ^ n : Nat) : Int) := U_nat (by have := two_pow_lt h; omega)
theorem i64wrap (a : Int) : IntKind.i64.wrap a = wrap64 a := by rw [IntKind.wrap_i64]; unfold wrap64; rfl
theorem int_two_pow (n : Nat) : ((2 : Int) ^ n) = ((2 ^ n : Nat) : Int) := by simp
theorem shl_i64 {n : Nat} (h : n ≤ 62) : shl .i64 1 (IntKind.u64.wrap (n : Int)) = ((2 ^ n : Nat) : Int) := by
  have hu : IntKind.u64.wrap (n : Int) = (n : Int) := wu64_of ⟨by omega, by omega⟩
  unfold shl
  rw [hu, Int.toNat_natCast, Nat.min_eq_left (by rw [show IntKind.i64.bits = 64 from rfl]; omega), i64wrap, Int.one_mul, int_two_pow]
  have := two_pow_lt (n := n) (m := 62) h
  generalize 2 ^ n = q at *
  rw [wrap64_of (by omega) (by omega)]
theorem shl_u64 {n : Nat} (h : n ≤ 63) : shl .u64 1 (IntKind.u64.wrap (n : Int)) = ((2 ^ n : Nat) : Int) := by
  have hu : IntKind.u64.wrap (n : Int) = (n : Int) := wu64_of ⟨by omega, by omega⟩
  unfold shl
  rw [hu, Int.toNat_natCast, Nat.min_eq_left (by rw [show IntKind.u64.bits = 64 from rfl]; omega), Int.one_mul, int_two_pow]
  have := two_pow_lt (n := n) (m := 63) h
  generalize 2 ^ n = q at *
  exact wu64_of ⟨by omega, by omega⟩
theorem or_i64 {x n : Nat} (hx : x < 2 ^ n) (hn : n ≤ 62) : Go.bits .or .i64 (x : Int) ((2 ^ n : Nat) : Int) = ((x + 2 ^ n : Nat) : Int) := by
  have h1 := two_pow_lt (n := n) (m := 62) hn
  have h2 : 2 ^ n < 2 ^ 63 := by omega
  have hb := (bits_nat .i64 63 (by decide) (fun n h0 h1 => by rw [i64wrap]; exact wrap64_of (by omega) (by omega)) x (2 ^ n) (by omega) h2).2
  have e := Nat.two_pow_add_eq_or_of_lt hx 1
  rw [Nat.mul_one] at e
  rw [hb, Nat.or_comm, ← e, Nat.add_comm]
theorem getD_take {l : List Int} {d i : Nat} (h : i < d) : (l.take d).getD i 0 = l.getD i 0 := by
  rw [List.getD_eq_getElem?_getD, List.getD_eq_getElem?_getD, List.getElem?_take, if_pos h]
theorem getD_drop (l : List Int) (d i : Nat) : (l.drop d).getD i 0 = l.getD (d + i) 0 := by
  rw [List.getD_eq_getElem?_getD, List.getD_eq_getElem?_getD, List.getElem?_drop]
theorem UL_take {l : List Int} (h : UL l) (d : Nat) : UL (l.take d) := fun x hx => h x (List.mem_of_mem_take hx)
theorem UL_drop {l : List Int} (h : UL l) (d : Nat) : UL (l.drop d) := fun x hx => h x (List.mem_of_mem_drop hx)
theorem co_take {l : List Int} {d i : Nat} (h : i < d) : co (l.take d) i = co l i := by unfold co; rw [getD_take h]
theorem co_drop (l : List Int) (d i : Nat) : co (l.drop d) i = co l (d + i) := by unfold co; rw [getD_drop]
theorem UL_tr (m : Nat) (f : Nat → F) : UL (tr m f) := UL_tab _ _
theorem add64 {a b : Nat} (h : a + b < 9223372036854775808) : wrap64 ((a : Int) + (b : Int)) = ((a + b : Nat) : Int) := by unfold wrap64; omega
theorem sub64 {a b : Nat} (h : b ≤ a) (h2 : a < 9223372036854775808) : wrap64 ((a : Int) - (b : Int)) = ((a - b : Nat) : Int) := by unfold wrap64; omega
theorem UL_cons {a : Int} {l : List Int} (h : U a) (hl : UL l) : UL (a :: l) := by
  intro x hx
  rcases List.mem_cons.1 hx with rfl | hx
  · exact h
  · exact hl x hx
theorem co_cons_zero (a : Int) (l : List Int) : co (a :: l) 0 = cv a := rfl
theorem co_cons_succ (a : Int) (l : List Int) (i : Nat) : co (a :: l) (i + 1) = co l i := rfl

/-! ### abacistref04_Same -/
theorem first_diff (a b : List Int) (n : Nat) : (∀ i, i < n → a.getD i 0 = b.getD i 0) ∨ ∃ m, m < n ∧ (∀ i, i < m → a.getD i 0 = b.getD i 0) ∧ a.getD m 0 ≠ b.getD m 0 := by
  induction n with
  | zero => exact .inl (fun i hi => by omega)
  | succ n ih =>
    rcases ih with h | ⟨m, hm, h1, h2⟩
    · by_cases c : a.getD n 0 = b.getD n 0
      · refine .inl (fun i hi => ?_)
        by_cases e : i = n
        · rw [e]; exact c
        · exact h i (by omega)
      · exact .inr ⟨n, by omega, h, c⟩
    · exact .inr ⟨m, by omega, h1, h2⟩
theorem same_of_getD {a b : List Int} (hl : a.length = b.length) (h : ∀ i, i < a.length → a.getD i 0 = b.getD i 0) : a = b := by
  apply List.ext_getElem hl
  intro i h1 h2
  have := h i h1
  rw [List.getD_eq_getElem?_getD, List.getD_eq_getElem?_getD, List.getElem?_eq_getElem h1, List.getElem?_eq_getElem h2] at this
  simpa using this
theorem abacistref04_Same_ev (a b : List Int) (ha : a.length < 4294967296) : Ev (fun k => abacistref04_Same.f k a b) (decide (a = b)) := by
  unfold abacistref04_Same.f
  by_cases hl : a.length = b.length
  · have c0 : (a.length : Int) = (b.length : Int) := by omega
    have round : ∀ i, i < a.length → a.getD i 0 = b.getD i 0 → ∀ r : Bool, Ev (fun k => abacistref04_Same.l0 k a b ((i + 1 : Nat) : Int)) r → Ev (fun k => abacistref04_Same.l0 k a b (i : Int)) r := by
      intro i hi he r ih
      refine Ev.step (fun k => abacistref04_Same.l0.eq_2 ..) ?_
      have c1 : (i : Int) < (a.length : Int) := by omega
      have c2 : (0 : Int) ≤ (i : Int) := by omega
      have c3 : (i : Int) < (b.length : Int) := by omega
      simp -implicitDefEqProofs only [c1, c2, c3, rd_nat, he, if_true, nat64_succ (show i < 9223372036854775807 by omega)]
      exact ih
    simp -implicitDefEqProofs only [c0, if_true]
    rcases first_diff a b a.length with h | ⟨m, hm, h1, h2⟩
    · rw [decide_eq_true (same_of_getD hl h)]
      refine Ev_loop a.length (fun k i => abacistref04_Same.l0 k a b (i : Int)) ?_ (fun i hi ih => round i hi (h i hi) _ ih) 0 (Nat.zero_le _)
      refine Ev.step (fun k => abacistref04_Same.l0.eq_2 ..) ?_
      simp -implicitDefEqProofs only [Int.lt_irrefl, if_false]
      exact Ev.now _
    · have hne : a ≠ b := fun e => h2 (by rw [e])
      rw [decide_eq_false hne]
      refine Ev_loop m (fun k i => abacistref04_Same.l0 k a b (i : Int)) ?_ (fun i hi ih => round i (by omega) (h1 i hi) _ ih) 0 (Nat.zero_le _)
      refine Ev.step (fun k => abacistref04_Same.l0.eq_2 ..) ?_
      have c1 : (m : Int) < (a.length : Int) := by omega
      have c2 : (0 : Int) ≤ (m : Int) := by omega
      have c3 : (m : Int) < (b.length : Int) := by omega
      simp -implicitDefEqProofs only [c1, c2, c3, rd_nat, h2, if_true, if_false]
      exact Ev.now _
  · have c0 : ¬ (a.length : Int) = (b.length : Int) := by omega
    have hne : a ≠ b := fun e => hl (by rw [e])
    simp -implicitDefEqProofs only [c0, if_false, decide_eq_false hne]
    exact Ev.now _
theorem abacistref04_Same_refl (a : List Int) (ha : a.length < 4294967296) : Ev (fun k => abacistref04_Same.f k a a) true := by
  have := abacistref04_Same_ev a a ha
  rw [decide_eq_true rfl] at this; exact this

/-! ### abacistref02_Of -/
theorem abacistref02_Of_eq {a : Int} (h : 0 ≤ a) : abacistref02_Of.f a = some (un (cv a)) := by
  unfold abacistref02_Of.f
  rw [un_cv, Int.tmod_eq_emod_of_nonneg h]

/-! ### abacistref02_Add -/
theorem abacistref02_Add_eq {a b : Int} (ha : 0 ≤ a) (hb : 0 ≤ b) : abacistref02_Add.f a b = some (un (cv a + cv b)) := by
  unfold abacistref02_Add.f
  rw [abacistref02_Of_eq ha, abacistref02_Of_eq hb]
  simp only [Option.bind_some]
  have h0 := un_lo (cv a); have h1 := un_hi (cv a); have h2 := un_lo (cv b); have h3 := un_hi (cv b)
  rw [un_add]
  simp only [wu64]
  have e : (18446744069414584321 - un (cv b)) % 18446744073709551616 = 18446744069414584321 - un (cv b) := by omega
  rw [e]
  split <;> congr 1 <;> omega

/-! ### abacistref02_Mul -/
theorem abacistref02_Mul_l0_ev : ∀ (m : Nat) (n : Nat) (x y : F), n < 2 ^ m → n < 18446744073709551616 → Ev (fun k => abacistref02_Mul.l0 k (un x) (n : Int) (un y)) (un (y + x * cv n))
  | 0, n, x, y, h, _ => by
    obtain rfl : n = 0 := by simpa using h
    refine Ev.step (f := fun _ => some (un y)) (fun k => ?_) ?_
    · simp only [abacistref02_Mul.l0]; rw [if_neg (by omega)]
    · have : y + x * cv ((0 : Nat) : Int) = y := by rw [show cv ((0 : Nat) : Int) = 0 from rfl]; grind
      rw [this]; exact Ev.now _
  | m + 1, n, x, y, h, hn => by
    have hm : n / 2 < 2 ^ m := by rw [Nat.pow_succ] at h; omega
    have e2 : IntKind.u64.wrap (Int.tdiv (n : Int) 2) = ((n / 2 : Nat) : Int) := by
      rw [Int.tdiv_eq_ediv_of_nonneg (by omega), wu64]; omega
    by_cases h0 : n = 0
    · subst h0
      refine Ev.step (f := fun _ => some (un y)) (fun k => ?_) ?_
      · simp only [abacistref02_Mul.l0]; rw [if_neg (by omega)]
      · have : y + x * cv ((0 : Nat) : Int) = y := by rw [show cv ((0 : Nat) : Int) = 0 from rfl]; grind
        rw [this]; exact Ev.now _
    · have em : Int.tmod (n : Int) 2 = (n : Int) % 2 := Int.tmod_eq_emod_of_nonneg (by omega)
      by_cases h1 : n % 2 = 1
      · refine Ev.step (f := fun k => abacistref02_Mul.l0 k (un (x + x)) ((n / 2 : Nat) : Int) (un (y + x))) (fun k => ?_) ?_
        · simp only [abacistref02_Mul.l0]
          rw [if_pos (by omega), em, if_pos (by omega), abacistref02_Add_eq (un_lo _) (un_lo _), abacistref02_Add_eq (un_lo _) (un_lo _), e2]
          simp only [Option.bind_some, cv_un]
        · have ih := abacistref02_Mul_l0_ev m (n / 2) (x + x) (y + x) hm (by omega)
          have e : y + x + (x + x) * cv ((n / 2 : Nat) : Int) = y + x * cv n := by
            have : (n : Int) = (1 + (((n / 2 : Nat) : Int) + ((n / 2 : Nat) : Int))) := by omega
            rw [this, cv_add, cv_add, cv_one]; grind
          rw [e] at ih; exact ih
      · refine Ev.step (f := fun k => abacistref02_Mul.l0 k (un (x + x)) ((n / 2 : Nat) : Int) (un y)) (fun k => ?_) ?_
        · simp only [abacistref02_Mul.l0]
          rw [if_pos (by omega), em, if_neg (by omega), abacistref02_Add_eq (un_lo _) (un_lo _), e2]
          simp only [Option.bind_some, cv_un]
        · have ih := abacistref02_Mul_l0_ev m (n / 2) (x + x) y hm (by omega)
          have e : y + (x + x) * cv ((n / 2 : Nat) : Int) = y + x * cv n := by
            have : (n : Int) = (((n / 2 : Nat) : Int) + ((n / 2 : Nat) : Int)) := by omega
            rw [this, cv_add]; grind
          rw [e] at ih; exact ih
theorem abacistref02_Mul_ev {a n : Int} (ha : 0 ≤ a) (hn : U n) : Ev (fun k => abacistref02_Mul.f k a n) (un (cv a * cv n)) := by
  have h := abacistref02_Mul_l0_ev 64 n.toNat (cv a) 0 (by have := hn.2; omega) (by have := hn.2; omega)
  rw [un_zero, Int.toNat_of_nonneg hn.1] at h
  have e : 0 + cv a * cv n = cv a * cv n := by grind
  rw [e] at h
  refine Ev.congr (fun k => ?_) h
  unfold abacistref02_Mul.f
  rw [abacistref02_Of_eq ha]; rfl

/-! ### root_good -/
theorem root_good_yes {a : Int} (h0 : 0 ≤ a) (h1 : a ≤ 32) : root_good.f a = some true := by
  unfold root_good.f; rw [if_pos h0, decide_eq_true h1]
theorem root_good_no {a : Int} (h : a < 0 ∨ 32 < a) : root_good.f a = some false := by
  unfold root_good.f
  by_cases c : a ≥ 0
  · rw [if_pos c, decide_eq_false (by omega)]
  · rw [if_neg c]

/-! ### gold_Of -/
theorem gold_Of_eq {a : Int} (h : U a) : gold_Of.f a = some (un (cv a)) := by
  unfold gold_Of.f
  rw [un_cv]
  have := h.1; have := h.2
  by_cases c : a ≥ 18446744069414584321
  · rw [if_pos c, wu64]; congr 1; omega
  · rw [if_neg c]; congr 1; omega

/-! ### gold_Reduce -/
theorem gold_Reduce_eq {hi lo : Int} (h : U hi) (h2 : U lo) : gold_Reduce.f hi lo = some (un (cv (hi * 18446744073709551616 + lo))) := by
  have e0 := h.1; have e1 := h.2; have e2 := h2.1; have e3 := h2.2
  unfold gold_Reduce.f
  rw [and_low h]
  simp only [wu64]
  have top : hi = 4294967296 * (hi / 4294967296) + hi % 4294967296 := by omega
  generalize hi / 4294967296 = t at *
  generalize hm : hi % 4294967296 = m at *
  have hm0 : 0 ≤ m := by omega
  have hm1 : m < 4294967296 := by omega
  have ht0 : 0 ≤ t := by omega
  have ht1 : t < 4294967296 := by omega
  have e : m * 4294967295 % 18446744073709551616 = m * 4294967295 := by omega
  rw [e]
  by_cases c1 : lo < t
  · rw [if_pos c1]
    have a1 : (lo - t) % 18446744073709551616 = lo - t + 18446744073709551616 := by omega
    rw [a1]
    have a2 : (lo - t + 18446744073709551616 - 4294967295) % 18446744073709551616 = lo - t + 18446744073709551616 - 4294967295 := by omega
    rw [a2]
    by_cases c2 : (lo - t + 18446744073709551616 - 4294967295 + m * 4294967295) % 18446744073709551616 < m * 4294967295
    · have c3 : (lo - t + 18446744073709551616 - 4294967295 + m * 4294967295) % 18446744073709551616 = lo - t - 4294967295 + m * 4294967295 := by omega
      have c4 : (lo - t - 4294967295 + m * 4294967295 + 4294967295) % 18446744073709551616 = lo - t + m * 4294967295 := by omega
      rw [if_pos c2, c3, c4, gold_Of_eq ⟨by omega, by omega⟩]
      simp only [Option.bind_some, Option.some.injEq, un_inj_iff]
      exact cv_of_eq (-(t * 4294967297 + m)) (by omega)
    · have c3 : (lo - t + 18446744073709551616 - 4294967295 + m * 4294967295) % 18446744073709551616 = lo - t + 18446744073709551616 - 4294967295 + m * 4294967295 := by omega
      rw [if_neg c2, c3, gold_Of_eq ⟨by omega, by omega⟩]
      simp only [Option.bind_some, Option.some.injEq, un_inj_iff]
      exact cv_of_eq (-(t * 4294967297 + m) + 1) (by omega)
  · rw [if_neg c1]
    have a1 : (lo - t) % 18446744073709551616 = lo - t := by omega
    rw [a1]
    by_cases c2 : (lo - t + m * 4294967295) % 18446744073709551616 < m * 4294967295
    · have c3 : (lo - t + m * 4294967295) % 18446744073709551616 = lo - t + m * 4294967295 - 18446744073709551616 := by omega
      have c4 : (lo - t + m * 4294967295 - 18446744073709551616 + 4294967295) % 18446744073709551616 = lo - t + m * 4294967295 - 18446744069414584321 := by omega
      rw [if_pos c2, c3, c4, gold_Of_eq ⟨by omega, by omega⟩]
      simp only [Option.bind_some, Option.some.injEq, un_inj_iff]
      exact cv_of_eq (-(t * 4294967297 + m) - 1) (by omega)
    · have c3 : (lo - t + m * 4294967295) % 18446744073709551616 = lo - t + m * 4294967295 := by omega
      rw [if_neg c2, c3, gold_Of_eq ⟨by omega, by omega⟩]
      simp only [Option.bind_some, Option.some.injEq, un_inj_iff]
      exact cv_of_eq (-(t * 4294967297 + m)) (by omega)

/-! ### bits_Mul64 -/
theorem mul64_arith (a b : Int) (ha : U a) (hb : U b) :
    IntKind.u64.wrap ((IntKind.u64.wrap ((IntKind.u64.wrap ((a / 4294967296) * (b / 4294967296))) + ((IntKind.u64.wrap ((IntKind.u64.wrap ((a / 4294967296) * (b % 4294967296))) + ((IntKind.u64.wrap ((a % 4294967296) * (b % 4294967296))) / 4294967296))) / 4294967296))) + ((IntKind.u64.wrap ((Go.bits .and .u64 (IntKind.u64.wrap ((IntKind.u64.wrap ((a / 4294967296) * (b % 4294967296))) + ((IntKind.u64.wrap ((a % 4294967296) * (b % 4294967296))) / 4294967296))) 4294967295) + (IntKind.u64.wrap ((a % 4294967296) * (b / 4294967296))))) / 4294967296)) = a * b / 18446744073709551616 := by
  rw [and_low (U_wrap _)]
  simp only [wu64]
  have a0 := ha.1; have a1 := ha.2; have b0 := hb.1; have b1 := hb.2
  have ea : a = 4294967296 * (a / 4294967296) + a % 4294967296 := by omega
  have eb : b = 4294967296 * (b / 4294967296) + b % 4294967296 := by omega
  have x0 : 0 ≤ a / 4294967296 := by omega
  have x1 : a / 4294967296 ≤ 4294967295 := by omega
  have y0 : 0 ≤ b / 4294967296 := by omega
  have y1 : b / 4294967296 ≤ 4294967295 := by omega
  have u0 : 0 ≤ a % 4294967296 := by omega
  have u1 : a % 4294967296 ≤ 4294967295 := by omega
  have v0 : 0 ≤ b % 4294967296 := by omega
  have v1 : b % 4294967296 ≤ 4294967295 := by omega
  generalize a / 4294967296 = x at *
  generalize b / 4294967296 = y at *
  generalize a % 4294967296 = u at *
  generalize b % 4294967296 = v at *
  have key : ∀ p q : Int, 0 ≤ p → p ≤ 4294967295 → 0 ≤ q → q ≤ 4294967295 → 0 ≤ p * q ∧ p * q ≤ 18446744065119617025 := by
    intro p q p0 p1 q0 q1
    refine ⟨Int.mul_nonneg p0 q0, ?_⟩
    have := Int.mul_le_mul p1 q1 q0 (by omega)
    omega
  have hxy := key x y x0 x1 y0 y1
  have hxv := key x v x0 x1 v0 v1
  have huv := key u v u0 u1 v0 v1
  have huy := key u y u0 u1 y0 y1
  have eab : a * b = 18446744073709551616 * (x * y) + 4294967296 * (x * v) + 4294967296 * (u * y) + u * v := by
    rw [ea, eb]; grind
  rw [eab]
  generalize x * y = xy at *
  generalize x * v = xv at *
  generalize u * v = uv at *
  generalize u * y = uy at *
  clear ea eb eab key
  rw [Int.emod_eq_of_lt hxy.1 (by omega), Int.emod_eq_of_lt hxv.1 (by omega), Int.emod_eq_of_lt huv.1 (by omega), Int.emod_eq_of_lt huy.1 (by omega)]
  rw [Int.emod_eq_of_lt (a := xv + uv / 4294967296) (by omega) (by omega)]
  omega
theorem bits_Mul64_eq {a b : Int} (ha : U a) (hb : U b) : bits_Mul64.f a b = some (a * b / 18446744073709551616, a * b % 18446744073709551616) := by
  unfold bits_Mul64.f
  rw [and_low ha, and_low hb, mul64_arith a b ha hb, wu64]

/-! ### wide_Mul -/
theorem wide_Mul_eq {a b : Int} (ha : U a) (hb : U b) : wide_Mul.f a b = some (a * b / 18446744073709551616, a * b % 18446744073709551616) := by
  unfold wide_Mul.f
  rw [bits_Mul64_eq ha hb]; rfl
theorem U_wide {a b : Int} (ha : U a) (hb : U b) : U (a * b / 18446744073709551616) ∧ U (a * b % 18446744073709551616) := by
  have h0 := Int.mul_nonneg ha.1 hb.1
  have h1 : a * b ≤ 18446744073709551615 * 18446744073709551615 := Int.mul_le_mul (by have := ha.2; omega) (by have := hb.2; omega) hb.1 (by omega)
  generalize a * b = c at *
  exact ⟨⟨by omega, by omega⟩, ⟨by omega, by omega⟩⟩

/-! ### gold_Mul -/
theorem gold_Mul_eq {a b : Int} (ha : U a) (hb : U b) : gold_Mul.f a b = some (un (cv a * cv b)) := by
  unfold gold_Mul.f
  rw [wide_Mul_eq ha hb]
  simp only [Option.bind_some]
  rw [gold_Reduce_eq (U_wide ha hb).1 (U_wide ha hb).2]
  simp only [Option.bind_some, ← cv_mul]
  congr 3
  omega

/-! ### gold_Pow -/
theorem gold_Pow_l0_ev : ∀ (m : Nat) (n : Nat) (x y : F), n < 2 ^ m → n < 18446744073709551616 → Ev (fun k => gold_Pow.l0 k (n : Int) (un x) (un y)) (un (x * y ^ n))
  | 0, n, x, y, h, _ => by
    obtain rfl : n = 0 := by simpa using h
    refine Ev.step (f := fun _ => some (un x)) (fun k => ?_) ?_
    · simp only [gold_Pow.l0]; rw [if_neg (by omega)]
    · have : x * y ^ 0 = x := by grind
      rw [this]; exact Ev.now _
  | m + 1, n, x, y, h, hn => by
    have hm : n / 2 < 2 ^ m := by rw [Nat.pow_succ] at h; omega
    have e2 : ((n : Int) / 2) = ((n / 2 : Nat) : Int) := by omega
    by_cases h0 : n = 0
    · subst h0
      refine Ev.step (f := fun _ => some (un x)) (fun k => ?_) ?_
      · simp only [gold_Pow.l0]; rw [if_neg (by omega)]
      · have : x * y ^ 0 = x := by grind
        rw [this]; exact Ev.now _
    · have hU : U (n : Int) := ⟨by omega, by omega⟩
      by_cases h1 : n % 2 = 1
      · refine Ev.step (f := fun k => gold_Pow.l0 k ((n / 2 : Nat) : Int) (un (x * y)) (un (y * y))) (fun k => ?_) ?_
        · simp only [gold_Pow.l0]
          rw [if_pos (by omega), and_one hU, if_pos (by omega), gold_Mul_eq (U_un _) (U_un _), gold_Mul_eq (U_un _) (U_un _), e2]
          simp only [Option.bind_some, cv_un]
        · have ih := gold_Pow_l0_ev m (n / 2) (x * y) (y * y) hm (by omega)
          have e : x * y * (y * y) ^ (n / 2) = x * y ^ n := by
            have : n = 2 * (n / 2) + 1 := by omega
            rw [show y * y = y ^ 2 by grind, ← pow_mul']
            rw [show x * y * y ^ (2 * (n / 2)) = x * y ^ (2 * (n / 2) + 1) by grind, ← this]
          rw [e] at ih; exact ih
      · refine Ev.step (f := fun k => gold_Pow.l0 k ((n / 2 : Nat) : Int) (un x) (un (y * y))) (fun k => ?_) ?_
        · simp only [gold_Pow.l0]
          rw [if_pos (by omega), and_one hU, if_neg (by omega), gold_Mul_eq (U_un _) (U_un _), e2]
          simp only [Option.bind_some, cv_un]
        · have ih := gold_Pow_l0_ev m (n / 2) x (y * y) hm (by omega)
          have e : x * (y * y) ^ (n / 2) = x * y ^ n := by
            have : n = 2 * (n / 2) := by omega
            rw [show y * y = y ^ 2 by grind, ← pow_mul', ← this]
          rw [e] at ih; exact ih
theorem gold_Pow_ev {a n : Int} (ha : U a) (hn : U n) : Ev (fun k => gold_Pow.f k a n) (un (cv a ^ n.toNat)) := by
  have h := gold_Pow_l0_ev 64 n.toNat 1 (cv a) (by have := hn.2; omega) (by have := hn.2; omega)
  rw [un_one, Int.toNat_of_nonneg hn.1] at h
  have e : 1 * cv a ^ n.toNat = cv a ^ n.toNat := by grind
  rw [e] at h
  refine Ev.congr (fun k => ?_) h
  unfold gold_Pow.f
  rw [gold_Of_eq ha]; rfl

/-! ### root_root -/
theorem shr_word {k : Nat} (hk : k ≤ 32) : shr .u64 18446744069414584320 (IntKind.u64.wrap (k : Int)) = ((18446744069414584320 / 2 ^ k : Nat) : Int) := by
  unfold shr
  rw [wu64_of ⟨by omega, by omega⟩, Int.toNat_natCast, Nat.min_eq_left (by rw [show IntKind.u64.bits = 64 from rfl]; omega)]
  rw [Int.natCast_ediv]; congr 1
theorem root_root_ev {k : Nat} (hk : k ≤ 32) : Ev (fun n => root_root.f n (k : Int)) (un (rt k)) := by
  unfold root_root.f
  have c : (0 : Int) ≤ IntKind.u64.wrap (k : Int) := (U_wrap _).1
  have hp : 18446744069414584320 / 2 ^ k ≤ 18446744069414584320 := Nat.div_le_self _ _
  simp -implicitDefEqProofs only [c, if_true, shr_word hk]
  have hu : U ((18446744069414584320 / 2 ^ k : Nat) : Int) := by
    generalize 18446744069414584320 / 2 ^ k = q at *
    exact ⟨by omega, by omega⟩
  refine Ev.bind (gold_Pow_ev ⟨by omega, by omega⟩ hu) ?_
  rw [Int.toNat_natCast]
  exact Ev.now _

/-! ### root_Root -/
theorem root_Root_ev {k : Nat} (hk : k ≤ 32) : Ev (fun n => root_Root.f n (k : Int)) (un (rt k), 0) := by
  unfold root_Root.f
  rw [root_good_yes (by omega) (by omega)]
  simp -implicitDefEqProofs only [Option.bind_some, if_true]
  exact Ev.bind (root_root_ev hk) (Ev.now _)
theorem root_Root_no {k : Int} (h : k < 0 ∨ 32 < k) : Ev (fun n => root_Root.f n k) (0, 1) := by
  unfold root_Root.f
  rw [root_good_no h]
  simp -implicitDefEqProofs only [Option.bind_some, show ¬ (false = true) by decide, if_false]
  exact Ev.now _

/-! ### gold_Inv -/
def erz (x : F) : Int := if x = 0 then 13 else 0
theorem erz_ne {x : F} (h : x ≠ 0) : erz x = 0 := if_neg h
theorem erz_zero : erz 0 = 13 := if_pos rfl
theorem gold_Inv_ev {a : Int} (h : U a) : Ev (fun k => gold_Inv.f k a) (un (inv (cv a)), erz (cv a)) := by
  unfold gold_Inv.f
  rw [gold_Of_eq h]
  simp -implicitDefEqProofs only [Option.bind_some]
  by_cases c : cv a = 0
  · have c' : un (cv a) = 0 := un_eq_zero.2 c
    simp -implicitDefEqProofs only [c', if_true]
    rw [c, inv_zero, erz_zero, un_zero]; exact Ev.now _
  · have c' : ¬ un (cv a) = 0 := fun h => c (un_eq_zero.1 h)
    simp -implicitDefEqProofs only [c', if_false, erz_ne c]
    refine Ev.bind (gold_Pow_ev h ⟨by omega, by omega⟩) ?_
    exact Ev.now _

/-! ### root_Back -/
theorem root_Back_ev {k : Nat} (hk : k ≤ 32) : Ev (fun n => root_Back.f n (k : Int)) (un (inv (rt k)), 0) := by
  unfold root_Back.f
  rw [root_good_yes (by omega) (by omega)]
  simp -implicitDefEqProofs only [Option.bind_some, if_true]
  refine Ev.bind (root_root_ev hk) ?_
  have h := gold_Inv_ev (U_un (rt k))
  rw [cv_un, erz_ne (rt_ne_zero k)] at h
  refine Ev.bind h ?_
  exact Ev.now _
theorem root_Back_no {k : Int} (h : k < 0 ∨ 32 < k) : Ev (fun n => root_Back.f n k) (0, 1) := by
  unfold root_Back.f
  rw [root_good_no h]
  simp -implicitDefEqProofs only [Option.bind_some, show ¬ (false = true) by decide, if_false]
  exact Ev.now _

/-! ### twid_Root -/
theorem twid_Root_ev {k : Nat} (hk : k ≤ 32) {d : Int} (hd : d = 0 ∨ d = 1) : Ev (fun n => twid_Root.f n (k : Int) d) (un (dr k d), 0) := by
  unfold twid_Root.f
  simp -implicitDefEqProofs only [show ¬ (k : Int) < 0 by omega, if_false, decide_eq_false (show ¬ (k : Int) > 32 by omega)]
  refine Ev.step (fun n => twid_Root.j0.eq_2 ..) ?_
  rcases hd with rfl | rfl
  · simp -implicitDefEqProofs only [show ¬ (false = true) by decide, if_false, if_true]
    refine Ev.bind (root_Root_ev hk) ?_
    rw [dr_fwd]; exact Ev.now _
  · simp -implicitDefEqProofs only [show ¬ (false = true) by decide, if_false, if_true, show ¬ (1 : Int) = 0 by omega]
    refine Ev.bind (root_Back_ev hk) ?_
    rw [dr_inv]; exact Ev.now _
theorem twid_Root_arg {k d : Int} (h : k < 0 ∨ 32 < k) : Ev (fun n => twid_Root.f n k d) (0, 1) := by
  have last : Ev (fun n => twid_Root.j0 n k d true) (0, 1) := by
    refine Ev.step (fun n => twid_Root.j0.eq_2 ..) ?_
    exact Ev.now _
  unfold twid_Root.f
  by_cases c : k < 0
  · simp -implicitDefEqProofs only [c, if_true]
    exact last
  · simp -implicitDefEqProofs only [c, if_false, decide_eq_true (show k > 32 by omega)]
    exact last
theorem twid_Root_kind {k d : Int} (h : ¬ (k < 0 ∨ 32 < k)) (hd : ¬ (d = 0 ∨ d = 1)) : Ev (fun n => twid_Root.f n k d) (0, 18) := by
  unfold twid_Root.f
  simp -implicitDefEqProofs only [show ¬ k < 0 by omega, if_false, decide_eq_false (show ¬ k > 32 by omega)]
  refine Ev.step (fun n => twid_Root.j0.eq_2 ..) ?_
  simp -implicitDefEqProofs only [show ¬ (false = true) by decide, if_false, show ¬ d = 0 by omega, show ¬ d = 1 by omega]
  exact Ev.now _

/-! ### root_Powers -/
theorem root_Powers_ev {w : Int} (hw : U w) {n : Nat} (hn : n ≤ 1048576) : Ev (fun k => root_Powers.f k w (n : Int)) (tab n (fun i => cv w ^ i), 0) := by
  unfold root_Powers.f
  have c1 : ¬ ((n : Int) < 0) := by omega
  have c2 : decide ((n : Int) > 1048576) = false := decide_eq_false (by omega)
  simp -implicitDefEqProofs only [c1, c2, if_false]
  refine Ev.step (fun k => root_Powers.j0.eq_2 ..) ?_
  have c3 : (0 : Int) ≤ (n : Int) := by omega
  have c4 : n ≤ 35184372088832 := by omega
  simp -implicitDefEqProofs only [c3, c4, Int.toNat_natCast, if_true, if_false, show ¬ (false = true) by decide, Option.bind_some, replicate_tab, tab_length]
  have e0 : tab n (fun _ => (0 : F)) = tab n (fun j => if j < 0 then cv w ^ j else 0) := tab_congr (fun j hj => by rw [if_neg (by omega)])
  have e1 : (1 : Int) = un (cv w ^ 0) := by rw [show cv w ^ 0 = 1 by grind, un_one]
  rw [e0, e1]
  refine Ev_loop n (fun k i => root_Powers.l0 k w (tab n (fun j => if j < i then cv w ^ j else 0)) (un (cv w ^ i)) (n : Int) (i : Int)) ?_ (fun i hi ih => ?_) 0 (Nat.zero_le _)
  · refine Ev.step (fun k => root_Powers.l0.eq_2 ..) ?_
    simp -implicitDefEqProofs only [Int.lt_irrefl, if_false]
    have e : tab n (fun j => if j < n then cv w ^ j else 0) = tab n (fun i => cv w ^ i) := tab_congr (fun j hj => by rw [if_pos hj])
    rw [e]
    exact Ev.now _
  · refine Ev.step (fun k => root_Powers.l0.eq_2 ..) ?_
    have c1 : (i : Int) < (n : Int) := by omega
    have c2 : (0 : Int) ≤ (i : Int) := by omega
    have es : cv w ^ i * cv w = cv w ^ (i + 1) := by grind
    simp -implicitDefEqProofs only [c1, c2, tab_length, if_true, gold_Mul_eq (U_un _) hw, Option.bind_some, cv_un, Int.toNat_natCast, tab_set, es, nat64_succ (show i < 9223372036854775807 by omega)]
    have e : tab n (fun j => if j = i then cv w ^ i else if j < i then cv w ^ j else 0) = tab n (fun j => if j < i + 1 then cv w ^ j else 0) := by
      apply tab_congr
      intro j hj
      by_cases hji : j = i
      · subst hji; rw [if_pos rfl, if_pos (by omega)]
      · rw [if_neg hji]
        by_cases hh : j < i
        · rw [if_pos hh, if_pos (by omega)]
        · rw [if_neg hh, if_neg (by omega)]
    rw [e]
    exact ih
theorem root_Powers_no {w n : Int} (h : n < 0 ∨ 1048576 < n) : Ev (fun k => root_Powers.f k w n) ([], 1) := by
  unfold root_Powers.f
  by_cases c : n < 0
  · simp -implicitDefEqProofs only [c, if_true]
    refine Ev.step (fun k => root_Powers.j0.eq_2 ..) ?_
    simp -implicitDefEqProofs only [if_true]
    exact Ev.now _
  · simp -implicitDefEqProofs only [c, if_false, decide_eq_true (show n > 1048576 by omega)]
    refine Ev.step (fun k => root_Powers.j0.eq_2 ..) ?_
    simp -implicitDefEqProofs only [if_true]
    exact Ev.now _

/-! ### twid_Table -/
def hf (k : Nat) : Nat := max (2 ^ k / 2) 1
theorem twid_Table_ev {k : Nat} {d : Int} (hk : k ≤ 20) (hd : d = 0 ∨ d = 1) : Ev (fun n => twid_Table.f n (k : Int) d) (tab (hf k) (fun i => dr k d ^ i), 0) := by
  have hp := two_pow_lt (n := k) (m := 20) hk
  unfold twid_Table.f
  refine Ev.bind (twid_Root_ev (by omega) hd) ?_
  have c : (0 : Int) ≤ IntKind.u64.wrap (k : Int) := (U_wrap _).1
  have e : mx (((2 ^ k : Nat) : Int) / 2) 1 = ((hf k : Nat) : Int) := by unfold mx hf; omega
  simp -implicitDefEqProofs only [if_true, show ¬ (k : Int) > 20 by omega, if_false, c, shl_i64 (show k ≤ 62 by omega), e]
  refine Ev.bind (root_Powers_ev (U_un _) (by unfold hf; omega)) ?_
  rw [cv_un]
  exact Ev.now _
theorem twid_Table_large {k : Nat} {d : Int} (h : 20 < k) (hk : k ≤ 32) (hd : d = 0 ∨ d = 1) : Ev (fun n => twid_Table.f n (k : Int) d) ([], 14) := by
  unfold twid_Table.f
  refine Ev.bind (twid_Root_ev (by omega) hd) ?_
  simp -implicitDefEqProofs only [if_true, show (k : Int) > 20 by omega]
  exact Ev.now _
theorem twid_Table_arg {k d : Int} (h : k < 0 ∨ 32 < k) : Ev (fun n => twid_Table.f n k d) ([], 1) := by
  unfold twid_Table.f
  refine Ev.bind (twid_Root_arg h) ?_
  simp -implicitDefEqProofs only [show ¬ (1 : Int) = 0 by omega, if_false]
  exact Ev.now _
theorem twid_Table_kind {k d : Int} (h : ¬ (k < 0 ∨ 32 < k)) (hd : ¬ (d = 0 ∨ d = 1)) : Ev (fun n => twid_Table.f n k d) ([], 18) := by
  unfold twid_Table.f
  refine Ev.bind (twid_Root_kind h hd) ?_
  simp -implicitDefEqProofs only [show ¬ (18 : Int) = 0 by omega, if_false]
  exact Ev.now _

/-! ### twid_Share -/
theorem twid_Share_ev {k : Nat} (hk : k ≤ 32) : Ev (fun n => twid_Share.f n (k : Int)) (un (sh k), 0) := by
  unfold twid_Share.f
  have c : (0 : Int) ≤ IntKind.u64.wrap (k : Int) := (U_wrap _).1
  simp -implicitDefEqProofs only [show ¬ (k : Int) < 0 by omega, show ¬ (k : Int) > 32 by omega, if_false, c, if_true, shl_u64 (show k ≤ 63 by omega)]
  have h := gold_Inv_ev (U_two_pow (n := k) (by omega))
  rw [erz_ne (two_pow_ne hk)] at h
  refine Ev.bind h ?_
  exact Ev.now _
theorem twid_Share_no {k : Int} (h : k < 0 ∨ 32 < k) : Ev (fun n => twid_Share.f n k) (0, 1) := by
  unfold twid_Share.f
  by_cases c : k < 0
  · simp -implicitDefEqProofs only [c, if_true]
    exact Ev.now _
  · simp -implicitDefEqProofs only [c, if_false, show k > 32 by omega, if_true]
    exact Ev.now _

/-! ### kern2_New -/
theorem hk_tabs2_ev {k : Nat} (hk : k ≤ 20) : ∃ K, ∀ n, K ≤ n → hk_tabs2 n k (tab (hf k) (fun i => dr k 0 ^ i)) (tab (hf k) (fun i => dr k 1 ^ i)) (un (sh k)) := by
  obtain ⟨K1, h1⟩ := twid_Table_ev (k := k) (d := 0) (by omega) (.inl rfl)
  obtain ⟨K2, h2⟩ := twid_Table_ev (k := k) (d := 1) (by omega) (.inr rfl)
  obtain ⟨K3, h3⟩ := twid_Share_ev (k := k) (by omega)
  exact ⟨max K1 (max K2 K3), fun n hn => ⟨_, _, _, h1 n (by omega), h2 n (by omega), h3 n (by omega)⟩⟩

/-! ### bits_TrailingZeros64 -/

/-! ### root_Fits -/
theorem and_pred_pow : ∀ (b n : Nat), 0 < n → n < 2 ^ b → n &&& (n - 1) = 0 → ∃ j, n = 2 ^ j := by
  intro b
  induction b with
  | zero => intro n h0 h1; omega
  | succ b ih =>
    intro n h0 h1 h
    rcases Nat.mod_two_eq_zero_or_one n with e | e
    · obtain ⟨m, rfl⟩ : ∃ m, n = 2 * m := ⟨n / 2, by omega⟩
      have hd : (2 * m &&& (2 * m - 1)) / 2 = m &&& (m - 1) := by
        rw [Nat.and_div_two, show 2 * m / 2 = m by omega, show (2 * m - 1) / 2 = m - 1 by omega]
      rw [h] at hd
      obtain ⟨j, hj⟩ := ih m (by omega) (by rw [Nat.pow_succ] at h1; omega) hd.symm
      exact ⟨j + 1, by rw [Nat.pow_succ]; omega⟩
    · have hd : (n &&& (n - 1)) / 2 = (n / 2) := by
        rw [Nat.and_div_two, show (n - 1) / 2 = n / 2 by omega, Nat.and_self]
      rw [h] at hd
      exact ⟨0, by rw [Nat.pow_zero]; omega⟩
theorem root_Fits_all : ((List.range 33).all fun j => decide (root_Fits.f ((2 ^ j : Nat) : Int) = some ((j : Int), true))) = true := by decide +kernel
theorem root_Fits_yes {j : Nat} (hj : j ≤ 32) : root_Fits.f ((2 ^ j : Nat) : Int) = some ((j : Int), true) :=
  of_decide_eq_true (List.all_eq_true.1 root_Fits_all j (List.mem_range.2 (by omega)))
theorem root_Fits_no {a : Int} (h : ∀ j : Nat, j ≤ 32 → a ≠ ((2 ^ j : Nat) : Int)) : root_Fits.f a = some (0, false) := by
  unfold root_Fits.f
  by_cases c : a < 1
  · rw [if_pos c]
  · rw [if_neg c]
    by_cases c2 : a > 4294967296
    · rw [if_pos c2]
    · rw [if_neg c2]
      obtain ⟨n, rfl⟩ := Int.eq_ofNat_of_zero_le (show 0 ≤ a by omega)
      have e1 : wrap64 ((n : Int) - 1) = ((n - 1 : Nat) : Int) := by unfold wrap64; omega
      have hb := (bits_nat .i64 63 (by decide) (fun n h0 h1 => by rw [i64wrap]; exact wrap64_of (by omega) (by omega)) n (n - 1) (by omega) (by omega)).1
      rw [e1, hb, if_neg]
      intro h0
      obtain ⟨j, hj⟩ := and_pred_pow 33 n (by omega) (by omega) (by omega)
      have hj2 : j ≤ 32 := by
        have : ¬ 33 ≤ j := fun hh => by have := two_pow_lt hh; omega
        omega
      exact h j hj2 (by rw [hj])
theorem fits_cases (a : Int) : (∃ j : Nat, j ≤ 32 ∧ a = ((2 ^ j : Nat) : Int)) ∨ ∀ j : Nat, j ≤ 32 → a ≠ ((2 ^ j : Nat) : Int) := by
  by_cases h : ∃ j : Nat, j ≤ 32 ∧ a = ((2 ^ j : Nat) : Int)
  · exact .inl h
  · exact .inr fun j hj e => h ⟨j, hj, e⟩

/-! ### bits_Add64 -/
theorem bits_Add64_eq {a b c : Int} (ha : 0 ≤ a) (hb : 0 ≤ b) (h0 : 0 ≤ c) (h1 : c ≤ 1) : bits_Add64.f a b c = some ((a + b + c) % 18446744073709551616, (a + b + c) / 18446744073709551616) := by
  unfold bits_Add64.f
  rw [if_pos ha, if_pos hb, if_pos h0, if_pos h1]

/-! ### wide_Add -/
theorem wide_Add_eq {a b c d : Int} (ha : U a) (hb : U b) (hc : U c) (hd : U d) :
    wide_Add.f a b c d = some ((a * 18446744073709551616 + b + (c * 18446744073709551616 + d)) / 18446744073709551616 % 18446744073709551616, (a * 18446744073709551616 + b + (c * 18446744073709551616 + d)) % 18446744073709551616, (a * 18446744073709551616 + b + (c * 18446744073709551616 + d)) / 340282366920938463463374607431768211456) := by
  have := ha.1; have := ha.2; have := hb.1; have := hb.2; have := hc.1; have := hc.2; have := hd.1; have := hd.2
  unfold wide_Add.f
  rw [bits_Add64_eq hb.1 hd.1 (by omega) (by omega)]
  simp only [Option.bind_some]
  rw [bits_Add64_eq ha.1 hc.1 (by omega) (by omega)]
  simp only [Option.bind_some, Option.some.injEq, Prod.mk.injEq]
  exact ⟨by omega, by omega, by omega⟩

/-! ### gold_Add -/
theorem gold_Add_eq {a b : Int} (ha : U a) (hb : U b) : gold_Add.f a b = some (un (cv a + cv b)) := by
  unfold gold_Add.f
  rw [gold_Of_eq ha, gold_Of_eq hb]
  simp only [Option.bind_some]
  rw [wide_Add_eq ⟨by omega, by omega⟩ (U_un _) ⟨by omega, by omega⟩ (U_un _)]
  simp only [Option.bind_some]
  have h0 := un_lo (cv a); have h1 := un_hi (cv a); have h2 := un_lo (cv b); have h3 := un_hi (cv b)
  rw [gold_Reduce_eq ⟨by omega, by omega⟩ ⟨by omega, by omega⟩]
  simp only [Option.bind_some]
  have e : cv a + cv b = cv (un (cv a) + un (cv b)) := by rw [cv_add, cv_un, cv_un]
  rw [e]
  congr 2
  exact cv_of_eq 0 (by omega)

/-! ### gold_Neg -/
theorem gold_Neg_eq {a : Int} (h : U a) : gold_Neg.f a = some (un (- cv a)) := by
  unfold gold_Neg.f
  rw [gold_Of_eq h]
  simp only [Option.bind_some, un_neg, un_cv]
  by_cases c : a % 18446744069414584321 = 0
  · rw [if_pos c, c]; rfl
  · rw [if_neg c, wu64]; congr 1; omega

/-! ### gold_Sub -/
theorem gold_Sub_eq {a b : Int} (ha : U a) (hb : U b) : gold_Sub.f a b = some (un (cv a - cv b)) := by
  unfold gold_Sub.f
  rw [gold_Neg_eq hb]
  simp only [Option.bind_some]
  rw [gold_Add_eq ha (U_un _)]
  simp only [Option.bind_some, cv_un]
  congr 2; grind

/-! ### kern2_Butterfly -/
theorem kern2_Butterfly_eq {a b w : Int} (ha : U a) (hb : U b) (hw : U w) : kern2_Butterfly.f a b w = some (un (cv a + cv b * cv w), un (cv a - cv b * cv w)) := by
  unfold kern2_Butterfly.f
  simp -implicitDefEqProofs only [gold_Mul_eq hb hw, Option.bind_some, gold_Add_eq ha (U_un _), gold_Sub_eq ha (U_un _), cv_un]

/-! ### kern2_stage -/
def stf (X h i : Nat) (N f : Nat → F) (p : Nat) : F := if p < X then N p else if p < X + h then (if p - X < i then N p else f p) else if p < X + 2 * h then (if p - X - h < i then N p else f p) else f p
theorem stf_old0 {X h i : Nat} (N f : Nat → F) (hi : i < h) : stf X h i N f (X + i) = f (X + i) := by
  unfold stf
  rw [if_neg (by omega), if_pos (by omega), if_neg (by omega)]
theorem stf_old1 {X h i : Nat} (N f : Nat → F) (hi : i < h) : stf X h i N f (X + h + i) = f (X + h + i) := by
  unfold stf
  rw [if_neg (by omega), if_neg (by omega), if_pos (by omega), if_neg (by omega)]
theorem stf_next {X h i n : Nat} (N f : Nat → F) (hi : i < h) {a b : F} (ha : N (X + i) = a) (hb : N (X + h + i) = b) :
    ((tab n (stf X h i N f)).set (X + i) (un a)).set (X + h + i) (un b) = tab n (stf X h (i + 1) N f) := by
  rw [tab_set, tab_set]
  refine tab_congr (fun p hp => ?_)
  by_cases c1 : p = X + h + i
  · rw [if_pos c1, c1, ← hb]
    unfold stf
    rw [if_neg (by omega), if_neg (by omega), if_pos (by omega), if_pos (by omega)]
  · rw [if_neg c1]
    by_cases c0 : p = X + i
    · rw [if_pos c0, c0, ← ha]
      unfold stf
      rw [if_neg (by omega), if_pos (by omega), if_pos (by omega)]
    · rw [if_neg c0]
      unfold stf
      by_cases d0 : p < X
      · rw [if_pos d0, if_pos d0]
      · rw [if_neg d0, if_neg d0]
        by_cases d1 : p < X + h
        · rw [if_pos d1, if_pos d1]
          by_cases d2 : p - X < i
          · rw [if_pos d2, if_pos (by omega)]
          · rw [if_neg d2, if_neg (by omega)]
        · rw [if_neg d1, if_neg d1]
          by_cases d3 : p < X + 2 * h
          · rw [if_pos d3, if_pos d3]
            by_cases d2 : p - X - h < i
            · rw [if_pos d2, if_pos (by omega)]
            · rw [if_neg d2, if_neg (by omega)]
          · rw [if_neg d3, if_neg d3]
theorem stf_start {X h n : Nat} (N f : Nat → F) : tab n (fun p => if p < X then N p else f p) = tab n (stf X h 0 N f) := by
  refine tab_congr (fun p _ => ?_)
  unfold stf
  by_cases d0 : p < X
  · rw [if_pos d0, if_pos d0]
  · rw [if_neg d0, if_neg d0]
    by_cases d1 : p < X + h
    · rw [if_pos d1, if_neg (by omega)]
    · rw [if_neg d1]
      by_cases d3 : p < X + 2 * h
      · rw [if_pos d3, if_neg (by omega)]
      · rw [if_neg d3]
theorem stf_end {X h n : Nat} (N f : Nat → F) : tab n (stf X h h N f) = tab n (fun p => if p < X + 2 * h then N p else f p) := by
  refine tab_congr (fun p _ => ?_)
  unfold stf
  by_cases d0 : p < X
  · rw [if_pos d0, if_pos (by omega)]
  · rw [if_neg d0]
    by_cases d1 : p < X + h
    · rw [if_pos d1, if_pos (by omega), if_pos (by omega)]
    · rw [if_neg d1]
      by_cases d3 : p < X + 2 * h
      · rw [if_pos d3, if_pos (by omega), if_pos d3]
      · rw [if_neg d3, if_neg d3]
theorem kern2_stage_inner {h T n m X : Nat} (hh : 0 < h) (hX : X + 2 * h ≤ n) (hn : n ≤ 1048576) (hm : ∀ i, i < h → i * T < m) (hm2 : m ≤ 1048576) (f g N : Nat → F)
    (hN : ∀ i, i < h → N (X + i) = f (X + i) + f (X + h + i) * g (i * T) ∧ N (X + h + i) = f (X + i) - f (X + h + i) * g (i * T)) {r : List Int}
    (next : Ev (fun q => kern2_stage.l0 q (tab n (fun p => if p < X + 2 * h then N p else f p)) (tab m g) (h : Int) (T : Int) ((X + 2 * h : Nat) : Int)) r) :
    Ev (fun q => kern2_stage.l1 q (tab n (fun p => if p < X then N p else f p)) (tab m g) (h : Int) (T : Int) (X : Int) (h : Int) 0) r := by
  rw [stf_start (h := h)]
  refine Ev_loop h (fun q i => kern2_stage.l1 q (tab n (stf X h i N f)) (tab m g) (h : Int) (T : Int) (X : Int) (h : Int) (i : Int)) ?_ (fun i hi ih => ?_) 0 (Nat.zero_le _)
  · refine Ev.step (fun q => kern2_stage.l1.eq_2 ..) ?_
    have e1 : wrap64 (2 * (h : Int)) = ((2 * h : Nat) : Int) := by unfold wrap64; omega
    have e2 : wrap64 ((X : Int) + ((2 * h : Nat) : Int)) = ((X + 2 * h : Nat) : Int) := by unfold wrap64; omega
    simp -implicitDefEqProofs only [Int.lt_irrefl, if_false, e1, e2, stf_end]
    exact next
  · refine Ev.step (fun q => kern2_stage.l1.eq_2 ..) ?_
    have hiT := hm i hi
    have c0 : (i : Int) < (h : Int) := by omega
    have e1 : wrap64 ((X : Int) + (i : Int)) = ((X + i : Nat) : Int) := by unfold wrap64; omega
    have e2 : wrap64 (((X + i : Nat) : Int) + (h : Int)) = ((X + h + i : Nat) : Int) := by unfold wrap64; omega
    have e3 : wrap64 ((i : Int) * (T : Int)) = ((i * T : Nat) : Int) := by rw [← Int.natCast_mul]; generalize i * T = z at *; unfold wrap64; omega
    have c1 : (0 : Int) ≤ ((X + i : Nat) : Int) := by omega
    have c2 : ((X + i : Nat) : Int) < ((tab n (stf X h i N f)).length : Int) := by rw [tab_length]; omega
    have c3 : (0 : Int) ≤ ((X + h + i : Nat) : Int) := by omega
    have c4 : ((X + h + i : Nat) : Int) < ((tab n (stf X h i N f)).length : Int) := by rw [tab_length]; omega
    have c5 : (0 : Int) ≤ ((i * T : Nat) : Int) := by omega
    have c6 : ((i * T : Nat) : Int) < ((tab m g).length : Int) := by rw [tab_length]; omega
    have b := kern2_Butterfly_eq (U_un (f (X + i))) (U_un (f (X + h + i))) (U_un (g (i * T)))
    rw [cv_un, cv_un, cv_un] at b
    simp -implicitDefEqProofs only [c0, e1, e2, e3, c1, c2, c3, c4, c5, c6, if_true, rd_tab (show X + i < n by omega), rd_tab (show X + h + i < n by omega), rd_tab hiT, stf_old0 N f hi, stf_old1 N f hi, b, Option.bind_some, Int.toNat_natCast, stf_next (n := n) N f hi (hN i hi).1 (hN i hi).2, nat64_succ (show i < 9223372036854775807 by omega)]
    exact ih
theorem kern2_stage_ev {h T n m : Nat} (hh : 0 < h) (hT : n = T * (2 * h)) (hn : n ≤ 1048576) (hm : ∀ i, i < h → i * T < m) (hm2 : m ≤ 1048576) (f g N : Nat → F)
    (hN : ∀ c i, c < T → i < h → N (c * (2 * h) + i) = f (c * (2 * h) + i) + f (c * (2 * h) + h + i) * g (i * T) ∧ N (c * (2 * h) + h + i) = f (c * (2 * h) + i) - f (c * (2 * h) + h + i) * g (i * T)) (h2 : h ≤ 1048576) :
    Ev (fun q => kern2_stage.f q (tab n f) (tab m g) (h : Int)) (tab n N) := by
  unfold kern2_stage.f
  have e1 : wrap64 (2 * (h : Int)) = ((2 * h : Nat) : Int) := by unfold wrap64; omega
  have e0 : ¬ ((2 * h : Nat) : Int) = 0 := by omega
  have e2 : wrap64 (((tab n f).length : Int) / ((2 * h : Nat) : Int)) = (T : Int) := by
    have hTn : T ≤ n := by rw [hT]; exact Nat.le_mul_of_pos_right _ (by omega)
    rw [tab_length, ← Int.natCast_ediv, hT, Nat.mul_div_cancel _ (by omega)]
    unfold wrap64; omega
  simp -implicitDefEqProofs only [e1, e0, if_false, e2]
  have s0 : tab n f = tab n (fun p => if p < 0 * (2 * h) then N p else f p) := tab_congr (fun p _ => by rw [if_neg (by omega)])
  rw [s0]
  have key := Ev_loop T (fun q c => kern2_stage.l0 q (tab n (fun p => if p < c * (2 * h) then N p else f p)) (tab m g) (h : Int) (T : Int) ((c * (2 * h) : Nat) : Int)) (r := tab n N) ?_ (fun c hc ih => ?_) 0 (Nat.zero_le _)
  · rw [Nat.zero_mul] at key
    rw [Nat.zero_mul]
    exact key
  · refine Ev.step (fun q => kern2_stage.l0.eq_2 ..) ?_
    have c0 : ¬ ((T * (2 * h) : Nat) : Int) < ((tab n (fun p => if p < T * (2 * h) then N p else f p)).length : Int) := by rw [tab_length, hT]; omega
    simp -implicitDefEqProofs only [c0, if_false]
    have s1 : tab n (fun p => if p < T * (2 * h) then N p else f p) = tab n N := tab_congr (fun p hp => by rw [if_pos (by omega)])
    rw [s1]
    exact Ev.now _
  · refine Ev.step (fun q => kern2_stage.l0.eq_2 ..) ?_
    have hle : (c + 1) * (2 * h) ≤ T * (2 * h) := Nat.mul_le_mul_right _ hc
    have hs : (c + 1) * (2 * h) = c * (2 * h) + 2 * h := by rw [Nat.add_mul, Nat.one_mul]
    have hN' := hN c
    rw [hs] at ih hle
    have c0 : ((c * (2 * h) : Nat) : Int) < ((tab n (fun p => if p < c * (2 * h) then N p else f p)).length : Int) := by rw [tab_length, hT]; omega
    simp -implicitDefEqProofs only [c0, if_true]
    generalize c * (2 * h) = X at *
    exact kern2_stage_inner hh (by omega) hn hm hm2 f g N (fun i hi => hN' i hc hi) ih

/-! ### kern2_Kernel_Plain -/
theorem hk_mv_len (k : Nat) (l : List Int) : ∀ i, (hk_mv k l i).length = l.length
  | 0 => by unfold hk_mv; exact List.length_replicate
  | i + 1 => by unfold hk_mv; rw [List.length_set]; exact hk_mv_len k l i
theorem hk_ofs_len (s l : List Int) : ∀ i, (hk_ofs s l i).length = l.length
  | 0 => rfl
  | i + 1 => by unfold hk_ofs; rw [List.length_set]; exact hk_ofs_len s l i
theorem hk_rv_eq : ∀ k i, hk_rv k i = rvm k i
  | 0, _ => rfl
  | k + 1, i => by unfold hk_rv rvm; rw [hk_rv_eq k]
theorem hk_mv_get {k : Nat} {l : List Int} (hl : l.length = 2 ^ k) : ∀ (n : Nat), n ≤ 2 ^ k → ∀ p, p < 2 ^ k → (hk_mv k l n).getD p 0 = if rvm k p < n then l.getD (rvm k p) 0 else 0
  | 0, _, p, hp => by
    unfold hk_mv
    rw [if_neg (by omega), List.getD_eq_getElem?_getD, List.getElem?_replicate, hl, if_pos hp]; rfl
  | n + 1, hn, p, hp => by
    have ih := hk_mv_get hl n (by omega) p hp
    have hlen : (hk_mv k l n).length = 2 ^ k := by rw [hk_mv_len, hl]
    unfold hk_mv
    rw [hk_rv_eq, List.getD_eq_getElem?_getD, List.getElem?_set]
    by_cases e : rvm k n = p
    · have e2 : rvm k p = n := by rw [← e, rvm_rvm k n (by omega)]
      rw [if_pos e, if_pos (by rw [hlen, e]; exact hp), if_pos (by omega), rd_nat, e2]; rfl
    · have e2 : rvm k p ≠ n := fun h => e (by rw [← h, rvm_rvm k p hp])
      rw [if_neg e, ← List.getD_eq_getElem?_getD, ih]
      by_cases c : rvm k p < n
      · rw [if_pos c, if_pos (by omega)]
      · rw [if_neg c, if_neg (by omega)]
theorem hk_ofs_get {s l : List Int} (hs : UL s) : ∀ (i : Nat), i ≤ l.length → ∀ p, p < l.length → (hk_ofs s l i).getD p 0 = if p < i then un (co s p) else l.getD p 0
  | 0, _, p, hp => by unfold hk_ofs; rw [if_neg (by omega)]
  | i + 1, hi, p, hp => by
    have ih := hk_ofs_get hs i (by omega) p hp
    have hlen := hk_ofs_len s l i
    have hg : hk_gofv (rd s (i : Int)) = un (co s i) := by
      unfold hk_gofv
      rw [gold_Of_eq (U_rd hs _), cv_rd]; rfl
    unfold hk_ofs
    rw [hg, List.getD_eq_getElem?_getD, List.getElem?_set]
    by_cases e : i = p
    · rw [if_pos e, if_pos (by omega), if_pos (by omega), e]; rfl
    · rw [if_neg e, ← List.getD_eq_getElem?_getD, ih]
      by_cases c : p < i
      · rw [if_pos c, if_pos (by omega)]
      · rw [if_neg c, if_neg (by omega)]
theorem hk_mv_UL {k : Nat} {l : List Int} (h : UL l) (hl : l.length = 2 ^ k) : UL (hk_mv k l l.length) := by
  intro x hx
  obtain ⟨p, hp, rfl⟩ := List.mem_iff_getElem.1 hx
  rw [hk_mv_len, hl] at hp
  have e := hk_mv_get hl l.length (by omega) p hp
  rw [List.getD_eq_getElem?_getD, List.getElem?_eq_getElem (by rw [hk_mv_len, hl]; exact hp)] at e
  rw [show (hk_mv k l l.length)[p]'(by rw [hk_mv_len, hl]; exact hp) = _ from e]
  have := rvm_lt k p
  rw [if_pos (by omega)]
  exact U_getD h _
theorem hk_start {k : Nat} {l : List Int} (h : UL l) (hl : l.length = 2 ^ k) (w : F) : hk_ofs (hk_mv k l l.length) l l.length = tab (2 ^ k) (hv k w (co l) 0) := by
  refine tab_ext (by rw [hk_ofs_len, hl]) (fun i hi => ?_)
  rw [hk_ofs_get (hk_mv_UL h hl) l.length (Nat.le_refl _) i (by omega), if_pos (by omega), hv_start k w (co l) hi]
  have hr := rvm_lt k i
  unfold co
  rw [hk_mv_get hl l.length (by omega) i hi, if_pos (by omega)]
theorem dr_half {k : Nat} (hk : k ≤ 32) (h0 : 0 < k) {d : Int} (hd : d = 0 ∨ d = 1) : dr k d ^ (2 ^ (k - 1)) = -1 := by
  obtain ⟨m, rfl⟩ : ∃ m, k = m + 1 := ⟨k - 1, by omega⟩
  have h1 : dr (m + 1) 0 ^ (2 ^ m) = -1 := by rw [dr_fwd]; exact rt_half (by omega)
  rcases hd with rfl | rfl
  · exact h1
  · have h2 := one_mul_eq (dr_other (m + 1) (.inl rfl)) (2 ^ m)
    rw [h1] at h2
    exact hk2 _ h2
where
  hk2 {R : Nat} [NeZero R] (x : Fin R) (h : -1 * x = 1) : x = -1 := by grind
theorem hk_stg_ev {k : Nat} (hk : k ≤ 20) {d : Int} (hd : d = 0 ∨ d = 1) (x : Nat → F) : ∀ j, j ≤ k → Ev (fun n => hk_stg n (tab (hf k) (fun i => dr k d ^ i)) (tab (2 ^ k) (hv k (dr k d) x 0)) j) (tab (2 ^ k) (hv k (dr k d) x j))
  | 0, _ => Ev.now _
  | j + 1, hj => by
    unfold hk_stg
    refine Ev.bind (hk_stg_ev hk hd x j (by omega)) ?_
    have hp := two_pow_lt (n := k) (m := 20) hk
    have hpj := two_pow_lt (n := j) (m := 20) (by omega)
    have hT : 2 ^ k = 2 ^ (k - j - 1) * (2 * 2 ^ j) := by
      rw [show 2 * 2 ^ j = 2 ^ (j + 1) by rw [Nat.pow_succ]; omega, ← Nat.pow_add]; congr 1; omega
    have hfk : hf k = 2 ^ (k - 1) := by
      unfold hf
      obtain ⟨m, rfl⟩ : ∃ m, k = m + 1 := ⟨k - 1, by omega⟩
      have := Nat.two_pow_pos m
      rw [Nat.pow_succ, Nat.mul_div_cancel _ (by omega), show m + 1 - 1 = m by omega]
      omega
    have hp1 := two_pow_lt (n := k - 1) (m := 20) (by omega)
    rw [hfk]
    refine kern2_stage_ev (T := 2 ^ (k - j - 1)) (Nat.two_pow_pos j) hT hp (fun i hi => ?_) hp1 _ (fun i => dr k d ^ i) _ (fun c i hc hi => hv_step (by omega) (dr_half (by omega) (by omega) hd) x c i hi) hpj
    have h1 : i * 2 ^ (k - j - 1) < 2 ^ j * 2 ^ (k - j - 1) := Nat.mul_lt_mul_of_pos_right hi (Nat.two_pow_pos _)
    rw [← Nat.pow_add, show j + (k - j - 1) = k - 1 by omega] at h1
    exact h1

/-! ### twid_Scale -/
theorem twid_Scale_ev {l : List Int} (h : UL l) (hl : l.length < 4294967296) {a : Int} (ha : U a) : Ev (fun k => twid_Scale.f k l a) (tab l.length (fun i => co l i * cv a)) := by
  unfold twid_Scale.f
  have d1 : (0 : Int) ≤ (l.length : Int) := by omega
  have d2 : l.length ≤ 35184372088832 := by omega
  simp -implicitDefEqProofs only [d1, d2, if_true, Int.toNat_natCast, replicate_tab]
  have e0 : tab l.length (fun _ => (0 : F)) = tab l.length (fun j => if j < 0 then co l j * cv a else 0) := tab_congr (fun j hj => by rw [if_neg (by omega)])
  rw [e0]
  refine Ev_loop l.length (fun k i => twid_Scale.l0 k a (tab l.length (fun j => if j < i then co l j * cv a else 0)) l (l.length : Int) (i : Int)) ?_ (fun i hi ih => ?_) 0 (Nat.zero_le _)
  · refine Ev.step (fun k => twid_Scale.l0.eq_2 ..) ?_
    simp -implicitDefEqProofs only [Int.lt_irrefl, if_false]
    rw [tab_congr (g := fun i => co l i * cv a) (fun i hi => by rw [if_pos hi])]
    exact Ev.now _
  · refine Ev.step (fun k => twid_Scale.l0.eq_2 ..) ?_
    have c1 : (i : Int) < (l.length : Int) := by omega
    have c2 : (0 : Int) ≤ (i : Int) := by omega
    simp -implicitDefEqProofs only [c1, c2, tab_length, if_true, gold_Mul_eq (U_rd h _) ha, Option.bind_some, cv_rd, Int.toNat_natCast, tab_set, nat64_succ (show i < 9223372036854775807 by omega)]
    have e : tab l.length (fun j => if j = i then co l i * cv a else if j < i then co l j * cv a else 0) = tab l.length (fun j => if j < i + 1 then co l j * cv a else 0) := by
      apply tab_congr
      intro j hj
      by_cases hji : j = i
      · subst hji; rw [if_pos rfl, if_pos (by omega)]
      · rw [if_neg hji]
        by_cases hh : j < i
        · rw [if_pos hh, if_pos (by omega)]
        · rw [if_neg hh, if_neg (by omega)]
    rw [e]
    exact ih

/-! ### kern2_Kernel_Run -/
theorem hk_run2_plain {l : List Int} (h : UL l) {k : Nat} (hk : k ≤ 10) {d : Int} (hd : d = 0 ∨ d = 1) (hl : l.length = 2 ^ k) :
    ∃ K, ∀ n, K ≤ n → hk_run2 n k (tab (hf k) (fun i => dr k 0 ^ i)) (tab (hf k) (fun i => dr k 1 ^ i)) (un (sh k)) d true l (tab (2 ^ k) (fun j => dft (2 ^ k) (dr k d) (co l) j)) := by
  have e0 : ((l.length : Nat) : Int) = ((2 ^ k : Nat) : Int) := by rw [hl]
  have e : (if d = 0 then tab (hf k) (fun i => dr k 0 ^ i) else tab (hf k) (fun i => dr k 1 ^ i)) = tab (hf k) (fun i => dr k d ^ i) := by
    rcases hd with rfl | rfl
    · exact if_pos rfl
    · exact if_neg (by omega)
  have es : tab (2 ^ k) (hv k (dr k d) (co l) k) = tab (2 ^ k) (fun j => dft (2 ^ k) (dr k d) (co l) j) := tab_congr (fun p hp => hv_end k _ _ hp)
  have hs := hk_stg_ev (k := k) (by omega) hd (co l) k (Nat.le_refl _)
  rw [es] at hs
  obtain ⟨K1, h1⟩ := hs
  refine ⟨K1, fun n hn => ⟨_, hd, hl, ?_, ?_, .inl ⟨.inl rfl, rfl⟩⟩⟩
  · rw [e0]; exact root_Fits_yes (j := k) (by omega)
  · rw [e, hk_start h hl (dr k d)]
    exact h1 n hn
theorem hk_run2_ev {l : List Int} (h : UL l) {k : Nat} (hk : k ≤ 10) {d : Int} (hd : d = 0 ∨ d = 1) (hl : l.length = 2 ^ k) :
    ∃ K, ∀ n, K ≤ n → hk_run2 n k (tab (hf k) (fun i => dr k 0 ^ i)) (tab (hf k) (fun i => dr k 1 ^ i)) (un (sh k)) d false l (tab (2 ^ k) (tf k d (co l))) := by
  have hp := two_pow_lt (n := k) (m := 10) hk
  obtain ⟨K1, h1⟩ := hk_run2_plain h hk hd hl
  rcases hd with rfl | rfl
  · refine ⟨K1, fun n hn => ?_⟩
    obtain ⟨r, ha, hb, hc, hs, he | he⟩ := h1 n hn
    · refine ⟨r, ha, hb, hc, hs, .inl ⟨.inr rfl, ?_⟩⟩
      rw [← he.2]
      exact tab_congr (fun p _ => if_neg (by omega))
    · exact absurd he.1 (by decide)
  · obtain ⟨K2, h2⟩ := twid_Scale_ev (l := tab (2 ^ k) (fun j => dft (2 ^ k) (dr k 1) (co l) j)) (UL_tab _ _) (by rw [tab_length]; omega) (U_un (sh k))
    have e2 : tab (tab (2 ^ k) (fun j => dft (2 ^ k) (dr k 1) (co l) j)).length (fun i => co (tab (2 ^ k) (fun j => dft (2 ^ k) (dr k 1) (co l) j)) i * cv (un (sh k))) = tab (2 ^ k) (tf k 1 (co l)) := by
      rw [tab_length]
      refine tab_congr (fun p hp => ?_)
      rw [co_tab_lt hp, cv_un]
      exact (if_pos rfl).symm
    rw [e2] at h2
    refine ⟨max K1 K2, fun n hn => ?_⟩
    obtain ⟨r, ha, hb, hc, hs, he | he⟩ := h1 n (by omega)
    · refine ⟨r, ha, hb, hc, hs, .inr ⟨rfl, rfl, ?_, ?_⟩⟩
      · rw [← he.2]; exact h2 n (by omega)
      · rw [← he.2, tab_length, tab_length]
    · exact absurd he.1 (by decide)

/-! ### kern4_Cross -/
theorem hk_crossO_eq {a b c d u : Int} (ha : U a) (hb : U b) (hc : U c) (hd : U d) (hu : U u) :
    hk_crossO a b c d u = some (un ((cv a + cv c) + (cv b + cv d)), un ((cv a - cv c) + cv u * (cv b - cv d)), un ((cv a + cv c) - (cv b + cv d)), un ((cv a - cv c) - cv u * (cv b - cv d))) := by
  unfold hk_crossO
  rw [gold_Add_eq ha hc, Option.bind_some, gold_Sub_eq ha hc, Option.bind_some, gold_Add_eq hb hd, Option.bind_some, gold_Sub_eq hb hd, Option.bind_some, gold_Mul_eq hu (U_un _), Option.bind_some, gold_Add_eq (U_un _) (U_un _), Option.bind_some, gold_Add_eq (U_un _) (U_un _), Option.bind_some, gold_Sub_eq (U_un _) (U_un _), Option.bind_some, gold_Sub_eq (U_un _) (U_un _), Option.bind_some]
  simp -implicitDefEqProofs only [cv_un]

/-! ### kern4_Unit -/
theorem kern4_Unit_ev {d : Int} (hd : d = 0 ∨ d = 1) : Ev (fun n => kern4_Unit.f n d) (un (dr 2 d), 0) := by
  unfold kern4_Unit.f
  refine Ev.bind (twid_Root_ev (k := 2) (by omega) hd) ?_
  exact Ev.now _
theorem kern4_Unit_kind {d : Int} (hd : ¬ (d = 0 ∨ d = 1)) : Ev (fun n => kern4_Unit.f n d) (0, 18) := by
  unfold kern4_Unit.f
  refine Ev.bind (twid_Root_kind (k := 2) (by omega) hd) ?_
  exact Ev.now _

/-! ### abacistlaw10_awake -/
theorem abacistlaw10_awake_ev : Ev (fun n => abacistlaw10_awake.f n) true := by
  unfold abacistlaw10_awake.f
  have e : hk_crossO 1 0 0 0 5 = some (1, 1, 1, 1) := by decide +kernel
  simp -implicitDefEqProofs only [e, Option.bind_some, if_true]
  refine Ev.bind (kern4_Unit_ev (.inl rfl)) ?_
  have e2 : un (dr 2 0) = 281474976710656 := by
    have hf : fpow 64 7 4611686017353646080 = 281474976710656 := by decide +kernel
    have h : dr 2 0 = cv ((281474976710656 : Nat) : Int) := by
      rw [dr_fwd, ← hf, fpow_eq 64 7 4611686017353646080 (by decide)]
      unfold rt
      rw [show 18446744069414584320 / 2 ^ 2 = 4611686017353646080 by decide]
      rfl
    rw [h]
    exact un_cv_of _ (by omega) (by omega)
  simp -implicitDefEqProofs only [e2, if_true]
  exact Ev.now _

/-! ### kern4_whole -/
theorem kern4_whole_ev {k : Nat} (hk : k ≤ 20) {d : Int} (hd : d = 0 ∨ d = 1) : Ev (fun n => kern4_whole.f n (k : Int) d) (tab (2 ^ k) (fun i => dr k d ^ i)) := by
  unfold kern4_whole.f
  refine Ev.bind (twid_Table_ev hk hd) ?_
  have hp := two_pow_lt (n := k) (m := 20) hk
  have hh : hf k ≤ 2 ^ k := by unfold hf; have := Nat.two_pow_pos k; omega
  have c1 : ([] : List Int).length + (tab (hf k) (fun i => dr k d ^ i)).length < 17592186044416 := by rw [List.length_nil, tab_length]; omega
  simp -implicitDefEqProofs only [Option.bind_some, c1, if_true, List.nil_append]
  by_cases hk0 : k = 0
  · subst hk0
    simp -implicitDefEqProofs only [show ¬ ((0 : Nat) : Int) > 0 by omega, if_false]
    exact Ev.now _
  · simp -implicitDefEqProofs only [show (k : Int) > 0 by omega, if_true]
    have hfk : hf k = 2 ^ (k - 1) := by
      unfold hf
      obtain ⟨m, rfl⟩ : ∃ m, k = m + 1 := ⟨k - 1, by omega⟩
      have := Nat.two_pow_pos m
      rw [Nat.pow_succ, Nat.mul_div_cancel _ (by omega), show m + 1 - 1 = m by omega]
      omega
    have h2 : 2 ^ k = 2 ^ (k - 1) + 2 ^ (k - 1) := by
      obtain ⟨m, rfl⟩ : ∃ m, k = m + 1 := ⟨k - 1, by omega⟩
      rw [Nat.pow_succ, show m + 1 - 1 = m by omega]; omega
    rw [hfk]
    have hq : 2 ^ (k - 1) ≤ 2 ^ 20 := by omega
    have half := dr_half4 (k := k) (by omega) (by omega) hd
    rw [h2]
    obtain ⟨n, hn⟩ : ∃ n, n = 2 ^ (k - 1) := ⟨_, rfl⟩
    rw [← hn] at hq half ⊢
    have key := Ev_loop n (fun m i => kern4_whole.l0 m (tab (n + i) (fun i => dr k d ^ i)) (tab n (fun i => dr k d ^ i)) ((tab n (fun i => dr k d ^ i)).length : Int) (i : Int)) (r := tab (n + n) (fun i => dr k d ^ i)) ?_ ?_ 0 (Nat.zero_le _)
    · exact key
    · refine Ev.step (fun m => kern4_whole.l0.eq_2 ..) ?_
      simp -implicitDefEqProofs only [tab_length, show ¬ (n : Int) < (n : Int) by omega, if_false]
      exact Ev.now _
    · intro i hi ih
      refine Ev.step (fun m => kern4_whole.l0.eq_2 ..) ?_
      have e1 : gold_Neg.f (un (dr k d ^ i)) = some (un (dr k d ^ (n + i))) := by
        rw [gold_Neg_eq (U_un _), cv_un, pow_add', half, k3]
      have e3 : tab (n + i) (fun i => dr k d ^ i) ++ [un (dr k d ^ (n + i))] = tab (n + (i + 1)) (fun i => dr k d ^ i) := (tab_succ (n + i) _).symm
      simp -implicitDefEqProofs only [tab_length, show (i : Int) < (n : Int) by omega, show (0 : Int) ≤ (i : Int) by omega, if_true, rd_tab hi, e1, Option.bind_some, show n + i < 17592186044416 by omega, e3, nat64_succ (show i < 9223372036854775807 by omega)]
      simp -implicitDefEqProofs only [tab_length] at ih
      exact ih
where k3 {R : Nat} [NeZero R] (a : Fin R) : -1 * a = -a := by grind

/-! ### kern4_New -/
/-- The tables of a kernel. -/
theorem hk_tabs4_ev {k : Nat} (hk : k ≤ 20) : ∃ K, ∀ n, K ≤ n → hk_tabs4 n k (tab (2 ^ k) (fun i => dr k 0 ^ i)) (tab (2 ^ k) (fun i => dr k 1 ^ i)) (un (dr 2 0)) (un (dr 2 1)) (un (sh k)) := by
  obtain ⟨K1, h1⟩ := twid_Table_ev (k := k) hk (d := 0) (.inl rfl)
  obtain ⟨K2, h2⟩ := twid_Table_ev (k := k) hk (d := 1) (.inr rfl)
  obtain ⟨K3, h3⟩ := kern4_whole_ev (k := k) hk (d := 0) (.inl rfl)
  obtain ⟨K4, h4⟩ := kern4_whole_ev (k := k) hk (d := 1) (.inr rfl)
  obtain ⟨K5, h5⟩ := kern4_Unit_ev (d := 0) (.inl rfl)
  obtain ⟨K6, h6⟩ := kern4_Unit_ev (d := 1) (.inr rfl)
  obtain ⟨K7, h7⟩ := twid_Share_ev (k := k) (by omega)
  exact ⟨max (max (max K1 K2) (max K3 K4)) (max (max K5 K6) K7), fun n hn => ⟨_, _, _, _, _, _, _, h1 n (by omega), h2 n (by omega), h3 n (by omega), h4 n (by omega), h5 n (by omega), h6 n (by omega), h7 n (by omega)⟩⟩

/-! ### kern4_pass_quarter -/
/-- One crossing: what stands behind it. -/
theorem hk_qstep_eq {N n s i q : Nat} (hN : N = n * s) (h4 : n = 4 * (n / 4)) (hi : i < n / 4) (hq : q < s) {W u : F} (hu : u * u = -1) (pf : Nat → F) (pn : Nat) (hpn : N ≤ pn) (hpf : ∀ j, pf (j * s) = W ^ j) (x g0 : Nat → F) :
    hk_qstep (tab pn pf) (tab N x) (un u) n s s i q (tab N (q4 s (qx s (n / 4) W u x) g0 i q)) = some (tab N (q4 s (qx s (n / 4) W u x) g0 i (q + 1))) := by
  obtain ⟨h, hh⟩ : ∃ h, h = n / 4 := ⟨_, rfl⟩
  rw [← hh] at h4 hi ⊢
  have hs : 0 < s := by omega
  have lt : ∀ c, c < 4 → q + s * (i + c * h) < N := fun c hc => by
    have h1 : i + c * h + 1 ≤ 4 * h := by
      have : c * h ≤ 3 * h := Nat.mul_le_mul_right h (by omega)
      omega
    have h2 : s * (i + c * h + 1) ≤ s * (4 * h) := Nat.mul_le_mul_left s h1
    rw [hN, h4, Nat.mul_comm (4 * h) s]
    rw [Nat.mul_add s, Nat.mul_one] at h2
    omega
  have lp : ∀ c, c < 4 → c * i * s < pn := fun c hc => by
    have h1 : c * i ≤ 3 * i := Nat.mul_le_mul_right i (by omega)
    have h2 : c * i * s < 4 * h * s := Nat.mul_lt_mul_of_pos_right (by omega) hs
    rw [hN, h4] at hpn
    omega
  have cr := hk_crossO_eq (U_un (x (q + s * (i + 0 * h)))) (U_un (x (q + s * (i + 1 * h)))) (U_un (x (q + s * (i + 2 * h)))) (U_un (x (q + s * (i + 3 * h)))) (U_un u)
  simp -implicitDefEqProofs only [cv_un] at cr
  obtain ⟨z0, z1, z2, z3⟩ := q_cross (x (q + s * (i + 0 * h))) (x (q + s * (i + 1 * h))) (x (q + s * (i + 2 * h))) (x (q + s * (i + 3 * h))) u hu
  rw [z0, z1, z2, z3] at cr
  have tt : ∀ t, t < 4 → qx s h W u x (q + s * 4 * i + t * s) = (x (q + s * (i + 0 * h)) + x (q + s * (i + 1 * h)) * u ^ (1 * t) + x (q + s * (i + 2 * h)) * u ^ (2 * t) + x (q + s * (i + 3 * h)) * u ^ (3 * t)) * W ^ (t * i) := fun t ht => by
    rw [qx_at h W u x hq ht, Nat.zero_mul, Nat.one_mul h, Nat.add_zero]
  have m1 := tt 1 (by omega)
  have m2 := tt 2 (by omega)
  have m3 := tt 3 (by omega)
  have m0 := tt 0 (by omega)
  rw [show q + s * 4 * i + 0 * s = q + s * 4 * i by omega, Nat.zero_mul i, k1 W, k2] at m0
  rw [Nat.one_mul s] at m1
  have w1 : rd (tab pn pf) ((i * s : Nat) : Int) = un (W ^ (1 * i)) := by
    have := lp 1 (by omega)
    rw [Nat.one_mul] at this ⊢
    rw [rd_tab this, hpf]
  have w2 : rd (tab pn pf) ((2 * i * s : Nat) : Int) = un (W ^ (2 * i)) := by rw [rd_tab (lp 2 (by omega)), hpf]
  have w3 : rd (tab pn pf) ((3 * i * s : Nat) : Int) = un (W ^ (3 * i)) := by rw [rd_tab (lp 3 (by omega)), hpf]
  unfold hk_qstep
  rw [← hh, rd_tab (lt 0 (by omega)), rd_tab (lt 1 (by omega)), rd_tab (lt 2 (by omega)), rd_tab (lt 3 (by omega)), cr, w1, w2, w3, Option.bind_some]
  simp -implicitDefEqProofs only []
  rw [gold_Mul_eq (U_un _) (U_un _), Option.bind_some, gold_Mul_eq (U_un _) (U_un _), Option.bind_some, gold_Mul_eq (U_un _) (U_un _), Option.bind_some]
  simp -implicitDefEqProofs only [cv_un]
  rw [← m0, ← m1, ← m2, ← m3]
  congr 1
  exact q4_step hq (qx s h W u x) g0
where
  k1 {R : Nat} [NeZero R] (W : Fin R) : W ^ 0 = 1 := by grind
  k2 {R : Nat} [NeZero R] (a : Fin R) : a * 1 = a := by grind
theorem hk_qin_eq {N n s i : Nat} (hN : N = n * s) (h4 : n = 4 * (n / 4)) (hi : i < n / 4) {W u : F} (hu : u * u = -1) (pf : Nat → F) (pn : Nat) (hpn : N ≤ pn) (hpf : ∀ j, pf (j * s) = W ^ j) (x g0 : Nat → F) :
    ∀ q, q ≤ s → hk_qin (tab pn pf) (tab N x) (un u) n s s i (tab N (q4 s (qx s (n / 4) W u x) g0 i 0)) q = some (tab N (q4 s (qx s (n / 4) W u x) g0 i q))
  | 0, _ => rfl
  | q + 1, hq => by
    unfold hk_qin
    rw [hk_qin_eq hN h4 hi hu pf pn hpn hpf x g0 q (by omega), Option.bind_some]
    exact hk_qstep_eq hN h4 hi (by omega) hu pf pn hpn hpf x g0
theorem hk_qout_at {N n s : Nat} (hN : N = n * s) (hs : 0 < s) (h4 : n = 4 * (n / 4)) {W u : F} (hu : u * u = -1) (pf : Nat → F) (pn : Nat) (hpn : N ≤ pn) (hpf : ∀ j, pf (j * s) = W ^ j) (x g0 : Nat → F) :
    ∀ i, i ≤ n / 4 → hk_qout (tab pn pf) (tab N x) (un u) n s s (tab N g0) i = some (tab N (q4 s (qx s (n / 4) W u x) g0 i 0))
  | 0, _ => by
    unfold hk_qout
    exact congrArg some (tab_congr (fun p _ => (q4_zero s _ g0 p).symm))
  | i + 1, hi => by
    unfold hk_qout
    rw [hk_qout_at hN hs h4 hu pf pn hpn hpf x g0 i (by omega), Option.bind_some, hk_qin_eq hN h4 (by omega) hu pf pn hpn hpf x g0 s (Nat.le_refl _)]
    exact congrArg some (tab_congr (fun p _ => q4_next hs _ g0 i p))
theorem hk_qout_eq {N n s : Nat} (hN : N = n * s) (hs : 0 < s) (h4 : n = 4 * (n / 4)) {W u : F} (hu : u * u = -1) (pf : Nat → F) (pn : Nat) (hpn : N ≤ pn) (hpf : ∀ j, pf (j * s) = W ^ j) (x g0 : Nat → F) :
    hk_qout (tab pn pf) (tab N x) (un u) n s s (tab N g0) (n / 4) = some (tab N (qx s (n / 4) W u x)) := by
  rw [hk_qout_at hN hs h4 hu pf pn hpn hpf x g0 (n / 4) (Nat.le_refl _)]
  exact congrArg some (tab_congr (fun p hp => q4_end hs _ g0 (by rw [← h4, ← hN]; exact hp)))

/-! ### kern4_pass_half -/
/-- A last pass's target while the pass is at place q. -/
def h4v (s : Nat) (x g0 : Nat → F) (q p : Nat) : F := if p < q then x p + x (p + s) else if s ≤ p ∧ p < s + q then x (p - s) - x p else g0 p
theorem hk_hin_eq (s : Nat) (x g0 : Nat → F) : ∀ q, q ≤ s → hk_hin (tab (2 * s) x) s (tab (2 * s) g0) q = some (tab (2 * s) (h4v s x g0 q))
  | 0, _ => by
    unfold hk_hin
    refine congrArg some (tab_congr (fun p _ => ?_))
    unfold h4v
    rw [if_neg (by omega), if_neg (by omega)]
  | q + 1, hq => by
    unfold hk_hin
    rw [hk_hin_eq s x g0 q (by omega), Option.bind_some]
    unfold hk_hstep
    rw [rd_tab (show q < 2 * s by omega), rd_tab (show q + s < 2 * s by omega), gold_Add_eq (U_un _) (U_un _), Option.bind_some, gold_Sub_eq (U_un _) (U_un _), Option.bind_some, cv_un, cv_un, tab_set, tab_set]
    refine congrArg some (tab_congr (fun p _ => ?_))
    unfold h4v
    by_cases c1 : p = q + s
    · rw [if_pos c1, if_neg (by omega), if_pos (by omega), c1, Nat.add_sub_cancel]
    · rw [if_neg c1]
      by_cases c2 : p = q
      · rw [if_pos c2, if_pos (by omega), c2]
      · rw [if_neg c2]
        by_cases c3 : p < q
        · rw [if_pos c3, if_pos (by omega)]
        · rw [if_neg c3, if_neg (show ¬ p < q + 1 by omega)]
          by_cases c4 : s ≤ p ∧ p < s + q
          · rw [if_pos c4, if_pos (by omega)]
          · rw [if_neg c4, if_neg (by omega)]

/-! ### kern4_Kernel_Plain -/
theorem hk_k4s_eq {k : Nat} (hk : k ≤ 20) {d : Int} (hd : d = 0 ∨ d = 1) (x : Nat → F) : ∀ j, 2 * j ≤ k → ∃ g0 : Nat → F,
    hk_k4s (tab (2 ^ k) (fun i => dr k d ^ i)) (un (dr 2 d)) k (tab (2 ^ k) x) j = some (tab (2 ^ k) (qv k (dr k d) (dr 2 d) x j), tab (2 ^ k) g0)
  | 0, _ => ⟨fun _ => 0, by unfold hk_k4s; rw [tab_length, replicate_tab]; rfl⟩
  | j + 1, hj => by
    obtain ⟨g0, e⟩ := hk_k4s_eq hk hd x j (by omega)
    refine ⟨qv k (dr k d) (dr 2 d) x j, ?_⟩
    unfold hk_k4s
    rw [e, Option.bind_some]
    simp -implicitDefEqProofs only [tab_length]
    have hs : 0 < 4 ^ j := Nat.pow_pos (by omega)
    have hn : 0 < 2 ^ (k - 2 * j) := Nat.two_pow_pos _
    have hN : 2 ^ k = 2 ^ (k - 2 * j) * 4 ^ j := by rw [four_pow, ← Nat.pow_add]; congr 1; omega
    have hst : 2 ^ k / 2 ^ (k - 2 * j) = 4 ^ j := by rw [hN, Nat.mul_div_cancel_left _ hn]
    have h4 : 2 ^ (k - 2 * j) = 4 * (2 ^ (k - 2 * j) / 4) := by
      rw [two_quarter (k := k) (j := j) hj, Nat.mul_div_cancel_left _ (by omega)]
    rw [hst, hk_qout_eq hN hs h4 (dr_two_sq hd) (fun i => dr k d ^ i) (2 ^ k) (Nat.le_refl _) (W := dr k d ^ 4 ^ j) (fun i => by rw [Nat.mul_comm, pow_mul'])]
    rfl
theorem hk_k4r_eq {k : Nat} (hk : k ≤ 20) {d : Int} (hd : d = 0 ∨ d = 1) (x : Nat → F) :
    hk_k4r (tab (2 ^ k) (fun i => dr k d ^ i)) (un (dr 2 d)) k (tab (2 ^ k) x) = some (tab (2 ^ k) (fun p => dft (2 ^ k) (dr k d) x p)) := by
  have key : ∀ q, q < 4 ^ (k / 2) → ∀ p, dft (2 ^ k) (dr k d) x (q + 4 ^ (k / 2) * p) = Sm (2 ^ (k - 2 * (k / 2))) (fun m => qv k (dr k d) (dr 2 d) x (k / 2) (q + 4 ^ (k / 2) * m) * (dr k d ^ 4 ^ (k / 2)) ^ (m * p)) := fun q hq p => by
    by_cases h2 : 2 ≤ k
    · rw [← qv_sum (dr k d) (dr 2 d) (dr_drop (by omega) h2 hd) (u4_of (dr_two_sq hd)) x (k / 2) (by omega) q hq p]
      unfold dft
      exact Sm_congr (fun m _ => by rw [← pow_mul', Nat.mul_comm m])
    · have e : k / 2 = 0 := by omega
      rw [e] at hq ⊢
      obtain rfl : q = 0 := by rw [Nat.pow_zero] at hq; omega
      unfold dft
      refine Sm_congr (fun m _ => ?_)
      show x m * (dr k d ^ (0 + 1 * p)) ^ m = x (0 + 1 * m) * (dr k d ^ 1) ^ (m * p)
      rw [Nat.zero_add, Nat.zero_add, Nat.one_mul, Nat.one_mul, k1 (dr k d), ← pow_mul', Nat.mul_comm m]
  obtain ⟨g0, e⟩ := hk_k4s_eq hk hd x (k / 2) (by omega)
  unfold hk_k4r
  rw [e, Option.bind_some]
  have hs : 0 < 4 ^ (k / 2) := Nat.pow_pos (by omega)
  rcases Nat.mod_two_eq_zero_or_one k with h0 | h1
  · rw [if_neg (by omega)]
    have hN : 2 ^ k = 4 ^ (k / 2) := by rw [four_pow]; congr 1; omega
    refine congrArg some (tab_congr (fun p hp => ?_))
    have := key p (by omega) 0
    rw [Nat.mul_zero, Nat.add_zero, show k - 2 * (k / 2) = 0 by omega] at this
    rw [this]
    show _ = 0 + qv k (dr k d) (dr 2 d) x (k / 2) (p + 4 ^ (k / 2) * 0) * (dr k d ^ 4 ^ (k / 2)) ^ (0 * 0)
    rw [Nat.mul_zero, Nat.add_zero, Nat.mul_zero]
    exact k2 _ _
  · rw [if_pos h1]
    have hN : 2 ^ k = 2 * 4 ^ (k / 2) := by
      rw [four_pow, show 2 * 2 ^ (2 * (k / 2)) = 2 ^ (2 * (k / 2) + 1) by rw [Nat.pow_succ]; omega]; congr 1; omega
    have hw : dr k d ^ 4 ^ (k / 2) = -1 := by
      rw [four_pow, show 2 * (k / 2) = k - 1 by omega]
      exact dr_half4 (by omega) (by omega) hd
    rw [hw] at key
    rw [show k - 2 * (k / 2) = 1 by omega] at key
    generalize 4 ^ (k / 2) = s at *
    rw [hN, hk_hin_eq s _ g0 s (Nat.le_refl _), ← hN]
    refine congrArg some (tab_congr (fun p hp => ?_))
    unfold h4v
    by_cases c : p < s
    · have := key p c 0
      rw [Nat.mul_zero, Nat.add_zero] at this
      rw [if_pos c, this]
      show _ = 0 + qv k (dr k d) (dr 2 d) x (k / 2) (p + s * 0) * (-1) ^ (0 * 0) + qv k (dr k d) (dr 2 d) x (k / 2) (p + s * 1) * (-1) ^ (1 * 0)
      rw [Nat.mul_zero, Nat.add_zero, Nat.mul_one, Nat.mul_zero]
      exact k3 _ _
    · have := key (p - s) (by omega) 1
      rw [Nat.mul_one, show p - s + s = p by omega] at this
      rw [if_neg c, if_pos (by omega), this]
      show _ = 0 + qv k (dr k d) (dr 2 d) x (k / 2) (p - s + s * 0) * (-1) ^ (0 * 1) + qv k (dr k d) (dr 2 d) x (k / 2) (p - s + s * 1) * (-1) ^ (1 * 1)
      rw [Nat.mul_zero, Nat.add_zero, Nat.mul_one s, show p - s + s = p by omega, Nat.zero_mul, Nat.mul_one]
      exact k4 _ _
where
  k1 {R : Nat} [NeZero R] (w : Fin R) : w ^ 1 = w := by grind
  k2 {R : Nat} [NeZero R] (a w : Fin R) : a = 0 + a * w ^ 0 := by grind
  k3 {R : Nat} [NeZero R] (a b : Fin R) : a + b = 0 + a * (-1) ^ 0 + b * (-1) ^ 0 := by grind
  k4 {R : Nat} [NeZero R] (a b : Fin R) : a - b = 0 + a * (-1) ^ 0 + b * (-1) ^ 1 := by grind

/-! ### kern4_Kernel_Run -/
theorem scale_one {k : Nat} {l : List Int} (hl : l.length = 2 ^ k) : tab l.length (fun i => co l i * cv 1) = tab (2 ^ k) (co l) := by
  rw [hl]
  exact tab_congr (fun i _ => by rw [cv_one]; exact kk _)
where kk {R : Nat} [NeZero R] (a : Fin R) : a * 1 = a := by grind
theorem hk_run4_plain {l : List Int} (h : UL l) {k : Nat} (hk : k ≤ 20) {d : Int} (hd : d = 0 ∨ d = 1) (hl : l.length = 2 ^ k) :
    ∃ K, ∀ n, K ≤ n → hk_run4 n k (tab (2 ^ k) (fun i => dr k 0 ^ i)) (tab (2 ^ k) (fun i => dr k 1 ^ i)) (un (dr 2 0)) (un (dr 2 1)) (un (sh k)) d true l (tab (2 ^ k) (fun j => dft (2 ^ k) (dr k d) (co l) j)) := by
  have hp := two_pow_lt (n := k) (m := 20) hk
  obtain ⟨K1, h1⟩ := twid_Scale_ev h (by omega) U_one
  rw [scale_one hl] at h1
  refine ⟨K1, fun n hn => ⟨_, _, hd, h1 n hn, by rw [tab_length, hl], hl, ?_, ?_, .inl ⟨.inl rfl, rfl⟩⟩⟩
  · rcases hd with rfl | rfl
    · rw [if_pos rfl, tab_length]
    · rw [if_neg (by omega), tab_length]
  · have e := hk_k4r_eq hk hd (co l)
    rcases hd with rfl | rfl
    · rw [if_pos rfl, if_pos rfl]; exact e
    · rw [if_neg (by omega), if_neg (by omega)]; exact e
theorem hk_run4_ev {l : List Int} (h : UL l) {k : Nat} (hk : k ≤ 20) {d : Int} (hd : d = 0 ∨ d = 1) (hl : l.length = 2 ^ k) :
    ∃ K, ∀ n, K ≤ n → hk_run4 n k (tab (2 ^ k) (fun i => dr k 0 ^ i)) (tab (2 ^ k) (fun i => dr k 1 ^ i)) (un (dr 2 0)) (un (dr 2 1)) (un (sh k)) d false l (tab (2 ^ k) (tf k d (co l))) := by
  have hp := two_pow_lt (n := k) (m := 20) hk
  obtain ⟨K1, h1⟩ := hk_run4_plain h hk hd hl
  rcases hd with rfl | rfl
  · refine ⟨K1, fun n hn => ?_⟩
    obtain ⟨sc, r, hd, a1, a2, a3, a4, a5, a6⟩ := h1 n hn
    have e2 : tab (2 ^ k) (tf k 0 (co l)) = tab (2 ^ k) (fun j => dft (2 ^ k) (dr k 0) (co l) j) := tab_congr (fun p _ => if_neg (by omega))
    rcases a6 with ⟨_, e⟩ | ⟨a6, _⟩
    · exact ⟨sc, r, hd, a1, a2, a3, a4, a5, .inl ⟨.inr rfl, e2.trans e⟩⟩
    · cases a6
  · obtain ⟨K2, h2⟩ := twid_Scale_ev (UL_tab (2 ^ k) (fun j => dft (2 ^ k) (dr k 1) (co l) j)) (by rw [tab_length]; omega) (U_un (sh k))
    have e2 : tab (tab (2 ^ k) (fun j => dft (2 ^ k) (dr k 1) (co l) j)).length (fun i => co (tab (2 ^ k) (fun j => dft (2 ^ k) (dr k 1) (co l) j)) i * cv (un (sh k))) = tab (2 ^ k) (tf k 1 (co l)) := by
      rw [tab_length]
      refine tab_congr (fun p hp => ?_)
      rw [co_tab_lt hp, cv_un]
      exact (if_pos rfl).symm
    rw [e2] at h2
    refine ⟨max K1 K2, fun n hn => ?_⟩
    obtain ⟨sc, r, hd, a1, a2, a3, a4, a5, a6⟩ := h1 n (by omega)
    rcases a6 with ⟨_, e⟩ | ⟨a6, _⟩
    · refine ⟨sc, r, hd, a1, a2, a3, a4, a5, .inr ⟨rfl, rfl, ?_, ?_⟩⟩
      · rw [← e]; exact h2 n (by omega)
      · rw [← e, tab_length, tab_length]
    · cases a6

end Go.Proofs.YtggmpdmlbjllhaaDoor.BQuartersAlike
