/- ConvMuls: for any rows of 64-bit words, any row of them and any number the law's call answers true: the product of at most 4 polynomials of at most 20 words is the product by its sums; the power of a polynomial is a product of as many; a number below 0, and one that is too large, is refused by name. Conditions: the rows read as rows. -/
import Derived.Test.YtjooodbjbidjiaaDoorBConvMuls
namespace Go.Proofs.YtjooodbjbidjiaaDoor.Pure
set_option linter.unusedVariables false
set_option linter.unusedSimpArgs false
open Go Go.RowKit Go.Proofs.YtjooodbjbidjiaaDoor.M Go.Proofs.YtjooodbjbidjiaaDoor.BConvMuls Go.Proofs.YtjooodbjbidjiaaDoor.PConvMuls Go.Proofs.YtjooodbjbidjiaaDoorW.PrintWords Go.Proofs.YtjooodbjbidjiaaDoorW.PrintLast Go.Proofs.YtjooodbjbidjiaaDoorW.PrintMore
theorem Same_refl (l : List Int) (h : l.length ≤ 100000) : Ev (fun n => abacistref04_Same.f n l l) true := by
  have := abacistref04_Same_ev l l (by omega)
  rw [decide_eq_true rfl] at this
  exact this
def wnt (p : List Int) : Nat → List Int
  | 0 => [1]
  | i + 1 => pmul (wnt p i) p
theorem wnt_row (p : List Int) : ∀ i, IsRow (wnt p i) (ppow (co p) i)
  | 0 => pone_row
  | i + 1 => (pmul_any (wnt p i) p).congr (fun j => by rw [(wnt_row p i).co]; rfl)
theorem wnt_len (p : List Int) (hp : p.length ≤ 20) : ∀ i, (wnt p i).length ≤ 1 + 20 * i
  | 0 => Nat.le_refl _
  | i + 1 => by
    have h1 := wnt_len p hp i
    have h2 := pmul_length (wnt p i) p
    show (pmul (wnt p i) p).length ≤ _
    omega
theorem wnt_UL (p : List Int) : ∀ i, UL (wnt p i)
  | 0 => UL_cons U_one UL_nil
  | i + 1 => UL_tr _ _
theorem tot20 {l : List (List Int)} : ∀ i, (∀ t, t < i → (l.getD t []).length ≤ 20) → tot l i ≤ 20 * i
  | 0, _ => Nat.le_refl _
  | i + 1, h => by
    have h1 := tot20 i (fun t ht => h t (by omega))
    have h2 := h i (by omega)
    show tot l i + _ ≤ _
    omega
theorem pows {p : List Int} (hp : UL p) (hl : p.length ≤ 20) {n : Nat} (hn : n ≤ 6) {r : List Int} (hr : IsRow r (ppow (co p) n)) : Ev (fun k => abacistlaw13_ConvMuls.l1 k p (n : Int) [1] r 0 0) true := by
  refine Ev_loop n (fun k i => abacistlaw13_ConvMuls.l1 k p (n : Int) (wnt p i) r 0 (i : Int)) ?_ (fun i hi ih => ?_) 0 (Nat.zero_le _)
  · refine Ev.step (fun k => abacistlaw13_ConvMuls.l1.eq_2 ..) ?_
    simp -implicitDefEqProofs only [Int.lt_irrefl, if_false, if_true]
    rw [hr.uniq (wnt_row p n)]
    refine Ev.bind (Same_refl _ (by have := wnt_len p hl n; omega)) ?_
    exact Ev.now _
  · refine Ev.step (fun k => abacistlaw13_ConvMuls.l1.eq_2 ..) ?_
    have h1 := wnt_len p hl i
    simp -implicitDefEqProofs only [show (i : Int) < (n : Int) by omega, if_true, nat64_succ (show i < 9223372036854775807 by omega)]
    refine Ev.bind (abacistref07_Mul_ev (wnt_UL p i) hp (by omega)) ?_
    exact ih
theorem muls_end {l : List (List Int)} {p : List Int} (hL : ∀ q ∈ l, UL q) (hp : UL p) (h4 : l.length ≤ 4) (hl : p.length ≤ 20) {n : Int} (hn : n ≤ 6 ∨ (0 < p.length ∧ n > wrap64 ((524288 : Int) / (p.length : Int)))) (hall : ∀ t, t < l.length → (l.getD t []).length ≤ 20) :
    Ev (fun k => (conv_Product.f k l).bind fun bt337 => ((conv_Power.f k p n).bind fun bt341 => (if bt337.2 = 0 then ((abacistref04_Same.f k bt337.1 (pst l l.length)).bind fun t345 => (abacistlaw13_ConvMuls.j2 k p n bt341.1 bt341.2 (!t345))) else (abacistlaw13_ConvMuls.j2 k p n bt341.1 bt341.2 true)))) true := by
  have ht := tot20 l.length hall
  have hs := pst_length l l.length
  refine Ev.bind (conv_Product_ev hL (by omega) (by omega)) ?_
  have key : ∀ (r : List Int) (e : Int), Ev (fun k => conv_Power.f k p n) (r, e) → Ev (fun k => abacistlaw13_ConvMuls.j2 k p n r e false) true → Ev (fun k => ((conv_Power.f k p n).bind fun bt341 => (if (pst l l.length, (0 : Int)).2 = 0 then ((abacistref04_Same.f k (pst l l.length, (0 : Int)).1 (pst l l.length)).bind fun t345 => (abacistlaw13_ConvMuls.j2 k p n bt341.1 bt341.2 (!t345))) else (abacistlaw13_ConvMuls.j2 k p n bt341.1 bt341.2 true)))) true := by
    intro r e h1 h2
    refine Ev.bind h1 ?_
    simp -implicitDefEqProofs only [if_true]
    refine Ev.bind (Same_refl _ (by omega)) ?_
    exact h2
  by_cases c0 : n < 0
  · refine key _ _ (conv_Power_neg c0) ?_
    refine Ev.step (fun k => abacistlaw13_ConvMuls.j2.eq_2 ..) ?_
    simp -implicitDefEqProofs only [Bool.false_eq_true, if_false, c0, if_true]
    exact Ev.now _
  by_cases c1 : n > 6
  · rcases hn with hn | ⟨hp0, hn⟩
    · omega
    refine key _ _ (conv_Power_large (by omega) hp0 (by omega) hn) ?_
    refine Ev.step (fun k => abacistlaw13_ConvMuls.j2.eq_2 ..) ?_
    simp -implicitDefEqProofs only [Bool.false_eq_true, if_false, c0, c1, if_true]
    exact Ev.now _
  obtain ⟨m, rfl⟩ := Int.eq_ofNat_of_zero_le (show 0 ≤ n by omega)
  obtain ⟨r, hr, hE⟩ := conv_Power_ev hp hl (n := m) (by omega)
  refine key _ _ hE ?_
  refine Ev.step (fun k => abacistlaw13_ConvMuls.j2.eq_2 ..) ?_
  simp -implicitDefEqProofs only [Bool.false_eq_true, if_false, c0, c1]
  exact pows hp hl (by omega) hr
theorem muls_loop {l : List (List Int)} {p : List Int} (hL : ∀ q ∈ l, UL q) (hp : UL p) (h4 : l.length ≤ 4) (hl : p.length ≤ 20) {n : Int} (hn : n ≤ 6 ∨ (0 < p.length ∧ n > wrap64 ((524288 : Int) / (p.length : Int)))) :
    ∀ d i, i + d = l.length → (∀ t, t < i → (l.getD t []).length ≤ 20) → Ev (fun k => abacistlaw13_ConvMuls.l0 k l p n (pst l i) (i : Int)) true
  | 0, i, hi, hall => by
    obtain rfl : i = l.length := by omega
    refine Ev.step (fun k => abacistlaw13_ConvMuls.l0.eq_2 ..) ?_
    simp -implicitDefEqProofs only [Int.lt_irrefl, if_false]
    exact muls_end hL hp h4 hl hn hall
  | d + 1, i, hi, hall => by
    refine Ev.step (fun k => abacistlaw13_ConvMuls.l0.eq_2 ..) ?_
    simp -implicitDefEqProofs only [show (i : Int) < (l.length : Int) by omega, show (0 : Int) ≤ (i : Int) by omega, if_true, rdl_at]
    by_cases c : (l.getD i []).length ≤ 20
    · have h1 := pst_length l i
      have h2 := tot20 i hall
      simp -implicitDefEqProofs only [show ¬ ((l.getD i []).length : Int) > 20 by omega, if_false, nat64_succ (show i < 9223372036854775807 by omega)]
      refine Ev.bind (abacistref07_Mul_ev (pst_UL l i) (rows_UL hL i) (by omega)) ?_
      exact muls_loop hL hp h4 hl hn d (i + 1) (by omega) (fun t ht => by
        rcases Nat.lt_or_ge t i with h | h
        · exact hall t h
        · obtain rfl : t = i := by omega
          exact c)
    · simp -implicitDefEqProofs only [show ((l.getD i []).length : Int) > 20 by omega, if_true]
      exact Ev.now _
theorem ConvMuls (l : List (List Int)) (p : List Int) (n : Int) (hL : ∀ q ∈ l, ∀ x ∈ q, (Lit.int .u64 x).wf = true) (hp : ∀ x ∈ p, (Lit.int .u64 x).wf = true) : ∃ k, abacistlaw13_ConvMuls.f k l p n = some true := by
  have hL : ∀ q ∈ l, UL q := fun q hq => UL_of_wf (hL q hq)
  have hp := UL_of_wf hp
  refine Ev.rounds ?_
  unfold abacistlaw13_ConvMuls.f
  refine Ev.bind abacistlaw13_awake_ev ?_
  simp -implicitDefEqProofs only [if_true]
  have yes : Ev (fun k => abacistlaw13_ConvMuls.j0 k l p n true) true := by
    refine Ev.step (fun k => abacistlaw13_ConvMuls.j0.eq_2 ..) ?_
    exact Ev.now _
  by_cases c1 : (l.length : Int) > 4
  · simp -implicitDefEqProofs only [c1, if_true]
    exact yes
  simp -implicitDefEqProofs only [c1, if_false]
  by_cases c2 : (p.length : Int) > 20
  · simp -implicitDefEqProofs only [c2, if_true]
    exact yes
  simp -implicitDefEqProofs only [c2, if_false]
  have no : (n ≤ 6 ∨ (0 < p.length ∧ n > wrap64 ((524288 : Int) / (p.length : Int)))) → Ev (fun k => abacistlaw13_ConvMuls.j0 k l p n false) true := fun hn => by
    refine Ev.step (fun k => abacistlaw13_ConvMuls.j0.eq_2 ..) ?_
    simp -implicitDefEqProofs only [Bool.false_eq_true, if_false]
    exact muls_loop hL hp (by omega) (by omega) hn l.length 0 (by omega) (fun t ht => by omega)
  by_cases c3 : n > 6
  · simp -implicitDefEqProofs only [c3, if_true]
    by_cases c4 : p.length = 0
    · simp -implicitDefEqProofs only [show (p.length : Int) = 0 by omega, if_true]
      exact yes
    · simp -implicitDefEqProofs only [show ¬ (p.length : Int) = 0 by omega, if_false]
      by_cases c5 : n ≤ wrap64 ((524288 : Int) / (p.length : Int))
      · rw [decide_eq_true c5]
        exact yes
      · rw [decide_eq_false c5]
        exact no (.inr ⟨by omega, by omega⟩)
  · simp -implicitDefEqProofs only [c3, if_false]
    exact no (.inl (by omega))
end Go.Proofs.YtjooodbjbidjiaaDoor.Pure
