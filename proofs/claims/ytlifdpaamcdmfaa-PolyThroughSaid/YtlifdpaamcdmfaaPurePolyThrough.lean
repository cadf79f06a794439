/- PolyThrough: for any two rows x, y the law's call answers true: of at most 12 words each, the polynomial through the points has these values and at most as many coefficients as there are points; rows of unlike lengths, and points of one x, are refused. The rows' own lengths are bounded as the statement's kinds bound them. -/
import Derived.Test.YtlifdpaamcdmfaaBPolyThrough
namespace Go.Proofs.Ytlifdpaamcdmfaa.Pure
set_option linter.unusedVariables false
set_option linter.unusedSimpArgs false
open Go Go.RowKit Go.Proofs.Ytlifdpaamcdmfaa.M Go.Proofs.Ytlifdpaamcdmfaa.BPolyThrough Go.Proofs.Ytlifdpaamcdmfaa.PPolyThrough Go.Proofs.YtlifdpaamcdmfaaW.PrintWords Go.Proofs.YtlifdpaamcdmfaaW.PrintLast Go.Proofs.YtlifdpaamcdmfaaW.PrintMore
theorem pairs_apart (f : Nat → F) (n : Nat) : (∀ i j, i < n → j < n → i ≠ j → f i ≠ f j) ∨ ∃ i k, i < n ∧ k < i ∧ f i = f k ∧ (∀ i', i' < i → ∀ k', k' < i' → f i' ≠ f k') ∧ (∀ k', k' < k → f i ≠ f k') := by
  induction n with
  | zero => exact .inl (fun i j hi => by omega)
  | succ n ih =>
    rcases ih with h | ⟨i, k, h1, h2, h3, h4, h5⟩
    · have key : ∀ m : Nat, (∀ k, k < m → f n ≠ f k) ∨ ∃ k, k < m ∧ f n = f k ∧ ∀ k', k' < k → f n ≠ f k' := by
        intro m
        induction m with
        | zero => exact .inl (fun k hk => by omega)
        | succ m ihm =>
          rcases ihm with h' | ⟨k, h1, h2, h3⟩
          · by_cases c : f n = f m
            · exact .inr ⟨m, by omega, c, h'⟩
            · refine .inl (fun k hk => ?_)
              by_cases e : k = m
              · rw [e]; exact c
              · exact h' k (by omega)
          · exact .inr ⟨k, by omega, h2, h3⟩
      rcases key n with h' | ⟨k, h1, h2, h3⟩
      · refine .inl (fun i j hi hj hne => ?_)
        by_cases e1 : i = n
        · rw [e1]; exact h' j (by omega)
        · by_cases e2 : j = n
          · rw [e2]; exact fun e => h' i (by omega) e.symm
          · exact h i j (by omega) (by omega) hne
      · exact .inr ⟨n, k, by omega, h1, h2, fun i' hi' k' hk' => h i' k' (by omega) (by omega) (by omega), h3⟩
    · exact .inr ⟨i, k, by omega, h2, h3, h4, h5⟩
theorem PolyThrough_l1 {x y : List Int} (hx : UL x) (hlx : x.length ≤ 12) {p : List Int} {e : Int} {i m : Nat} (hi : i < x.length) (hm : m ≤ i) (h : ∀ k, k < m → co x i ≠ co x k)
    (ih : Ev (fun k => abacistlaw07_PolyThrough.l1 k x y p e (i : Int) (m : Int)) true) : Ev (fun k => abacistlaw07_PolyThrough.l1 k x y p e (i : Int) 0) true := by
  refine Ev_loop m (fun k t => abacistlaw07_PolyThrough.l1 k x y p e (i : Int) (t : Int)) ih (fun t ht ih => ?_) 0 (Nat.zero_le _)
  refine Ev.step (fun k => abacistlaw07_PolyThrough.l1.eq_2 ..) ?_
  have c1 : (t : Int) < (i : Int) := by omega
  have c2 : (0 : Int) ≤ (i : Int) := by omega
  have c3 : (i : Int) < (x.length : Int) := by omega
  have c4 : (0 : Int) ≤ (t : Int) := by omega
  have c5 : (t : Int) < (x.length : Int) := by omega
  have c6 : ¬ un (co x i) = un (co x t) := fun hh => h t ht (un_inj hh)
  simp -implicitDefEqProofs only [c1, c2, c3, c4, c5, if_true, abacistref02_Of_eq (U_rd hx _).1, Option.bind_some, cv_rd, c6, if_false, nat64_succ (show t < 9223372036854775807 by omega)]
  exact ih
theorem PolyThrough_l0 {x y : List Int} (hx : UL x) (hlx : x.length ≤ 12) {p : List Int} {e : Int} {n : Nat} (hn : n ≤ x.length) (h : ∀ i, i < n → ∀ k, k < i → co x i ≠ co x k)
    (ih : Ev (fun k => abacistlaw07_PolyThrough.l0 k x y p e (n : Int)) true) : Ev (fun k => abacistlaw07_PolyThrough.l0 k x y p e 0) true := by
  refine Ev_loop n (fun k i => abacistlaw07_PolyThrough.l0 k x y p e (i : Int)) ih (fun i hi ih => ?_) 0 (Nat.zero_le _)
  refine Ev.step (fun k => abacistlaw07_PolyThrough.l0.eq_2 ..) ?_
  have c1 : (i : Int) < (x.length : Int) := by omega
  simp -implicitDefEqProofs only [c1, if_true]
  refine PolyThrough_l1 hx hlx (show i < x.length by omega) (Nat.le_refl i) (fun k hk => h i hi k hk) ?_
  refine Ev.step (fun k => abacistlaw07_PolyThrough.l1.eq_2 ..) ?_
  simp -implicitDefEqProofs only [Int.lt_irrefl, if_false, nat64_succ (show i < 9223372036854775807 by omega)]
  exact ih
theorem PolyThrough : abacistlaw07_PolyThrough.Pure := by
  intro x y hx0 hx1 hx2 hy0 hy1 hy2
  have hx := UL_of_wf hx2
  have hy := UL_of_wf hy2
  refine Ev.rounds (g := fun k => abacistlaw07_PolyThrough.f k x y) ?_
  unfold abacistlaw07_PolyThrough.f
  refine Ev.bind abacistlaw07_awake_ev ?_
  simp -implicitDefEqProofs only [if_true]
  have triv : Ev (fun k => abacistlaw07_PolyThrough.j0 k x y true) true := by
    refine Ev.step (fun k => abacistlaw07_PolyThrough.j0.eq_2 ..) ?_
    simp -implicitDefEqProofs only [if_true]
    exact Ev.now _
  by_cases c : (x.length : Int) > 12
  · simp -implicitDefEqProofs only [c, if_true]; exact triv
  · by_cases d : (y.length : Int) > 12
    · simp -implicitDefEqProofs only [c, if_false, decide_eq_true d]; exact triv
    · simp -implicitDefEqProofs only [c, if_false, decide_eq_false d]
      refine Ev.step (fun k => abacistlaw07_PolyThrough.j0.eq_2 ..) ?_
      by_cases hl : x.length = y.length
      · have c1 : (x.length : Int) = (y.length : Int) := by omega
        rcases pairs_apart (co x) x.length with hd | ⟨i, k, hi, hk, he, h4, h5⟩
        · refine Ev.bind (poly_Through_ev hx hy hl (by omega) hd) ?_
          simp -implicitDefEqProofs only [c1, if_true]
          refine PolyThrough_l0 hx (by omega) (Nat.le_refl _) (fun i hi k hk => hd i k hi (by omega) (by omega)) ?_
          have hdt := dg_le x.length (thr x.length (co x) (co y) x.length)
          have eT : co (tr x.length (thr x.length (co x) (co y) x.length)) = thr x.length (co x) (co y) x.length := by funext t; exact co_tr (thr_out _ _ _ _) t
          refine Ev.step (fun k => abacistlaw07_PolyThrough.l0.eq_2 ..) ?_
          simp -implicitDefEqProofs only [Int.lt_irrefl, if_false, if_true, tr_length, show ¬ ((dg x.length (thr x.length (co x) (co y) x.length) : Int) > (x.length : Int)) by omega]
          refine Ev.bind (abacistref07_Trim_ev (UL_tr _ _) (by rw [tr_length]; omega)) ?_
          rw [tr_length, eT, tr_tr]
          refine Ev.bind (abacistref04_Same_refl _ (by rw [tr_length]; omega)) ?_
          refine Ev.step (fun k => abacistlaw07_PolyThrough.j3.eq_2 ..) ?_
          simp -implicitDefEqProofs only [Bool.not_true, show ¬ (false = true) by decide, if_false]
          refine Ev_loop x.length (fun k i => abacistlaw07_PolyThrough.l2 k x y (tr x.length (thr x.length (co x) (co y) x.length)) (i : Int)) ?_ (fun i hi ih => ?_) 0 (Nat.zero_le _)
          · refine Ev.step (fun k => abacistlaw07_PolyThrough.l2.eq_2 ..) ?_
            simp -implicitDefEqProofs only [Int.lt_irrefl, if_false]
            exact Ev.now _
          · refine Ev.step (fun k => abacistlaw07_PolyThrough.l2.eq_2 ..) ?_
            have d1 : (i : Int) < (x.length : Int) := by omega
            have d2 : (0 : Int) ≤ (i : Int) := by omega
            have d3 : (i : Int) < (y.length : Int) := by omega
            simp -implicitDefEqProofs only [d1, d2, d3, if_true]
            refine Ev.bind (abacistref07_At_ev (UL_tr _ _) (by rw [tr_length]; omega) (U_rd hx _)) ?_
            have ev1 : ev (tr x.length (thr x.length (co x) (co y) x.length)).length (co (tr x.length (thr x.length (co x) (co y) x.length))) (cv (rd x (i : Int))) = co y i := by
              rw [tr_length, eT, cv_rd]
              exact (ev_ext _ hdt (fun j h1 h2 => dg_out h1 h2)).symm.trans (thr_values hd hi)
            rw [ev1]
            simp -implicitDefEqProofs only [abacistref02_Of_eq (U_rd hy _).1, Option.bind_some, cv_rd, if_true, nat64_succ (show i < 9223372036854775807 by omega)]
            exact ih
        · refine Ev.bind (poly_Through_zero hx hy hl (by omega) hi (show k < x.length by omega) (by omega) he) ?_
          simp -implicitDefEqProofs only [c1, if_true]
          refine PolyThrough_l0 hx (by omega) (Nat.le_of_lt hi) h4 ?_
          refine Ev.step (fun k => abacistlaw07_PolyThrough.l0.eq_2 ..) ?_
          simp -implicitDefEqProofs only [show (i : Int) < (x.length : Int) by omega, if_true]
          refine PolyThrough_l1 hx (by omega) hi (Nat.le_of_lt hk) h5 ?_
          refine Ev.step (fun k => abacistlaw07_PolyThrough.l1.eq_2 ..) ?_
          have d1 : (k : Int) < (i : Int) := by omega
          have d2 : (0 : Int) ≤ (i : Int) := by omega
          have d3 : (i : Int) < (x.length : Int) := by omega
          have d4 : (0 : Int) ≤ (k : Int) := by omega
          have d5 : (k : Int) < (x.length : Int) := by omega
          have d6 : (([] : List Int).length : Int) = 0 := rfl
          simp -implicitDefEqProofs only [d1, d2, d3, d4, d5, d6, if_true, abacistref02_Of_eq (U_rd hx _).1, Option.bind_some, cv_rd, he, beq_self_eq_true]
          exact Ev.now _
      · refine Ev.bind (poly_Through_odd hl) ?_
        have d6 : (([] : List Int).length : Int) = 0 := rfl
        simp -implicitDefEqProofs only [show ¬ (x.length : Int) = (y.length : Int) by omega, if_false, if_true, d6, beq_self_eq_true]
        exact Ev.now _
end Go.Proofs.Ytlifdpaamcdmfaa.Pure
