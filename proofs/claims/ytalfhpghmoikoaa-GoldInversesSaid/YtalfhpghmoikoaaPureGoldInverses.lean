/- GoldInverses: for any words a, b the law's call answers true: an inverse's product with its word is 1, a quotient's with what it was divided by is what there was, and 0 has none. No condition beyond the kinds of the arguments. -/
import Derived.Test.YtalfhpghmoikoaaBGoldInverses
namespace Go.Proofs.Ytalfhpghmoikoaa.Pure
set_option linter.unusedVariables false
set_option linter.unusedSimpArgs false
open Go Go.RowKit Go.Proofs.Ytalfhpghmoikoaa.M Go.Proofs.Ytalfhpghmoikoaa.BGoldInverses Go.Proofs.Ytalfhpghmoikoaa.PGoldInverses Go.Proofs.YtalfhpghmoikoaaW.PrintWords Go.Proofs.YtalfhpghmoikoaaW.PrintLast Go.Proofs.YtalfhpghmoikoaaW.PrintMore
theorem good_un (x : F) : gold_Good.f (un x) = some true := by rw [gold_Good_eq, decide_eq_true (un_hi x)]
theorem GoldInverses : abacistlaw02_GoldInverses.Pure := by
  intro a b ha hb
  have hA := U_of_wf ha
  have hB := U_of_wf hb
  refine Ev.rounds (g := fun k => abacistlaw02_GoldInverses.f k a b) ?_
  unfold abacistlaw02_GoldInverses.f
  refine Ev.bind abacistlaw02_awake_ev ?_
  simp -implicitDefEqProofs only [if_true]
  refine Ev.bind (gold_Inv_ev hB) ?_
  refine Ev.bind (gold_Div_ev hA hB) ?_
  rw [abacistref02_Of_eq hB.1]
  by_cases c : cv b = 0
  · rw [if_pos c, c, erz_zero, inv_zero, un_zero]
    simp -implicitDefEqProofs only [Option.bind_some, if_true, beq_self_eq_true]
    exact Ev.now _
  · have c' : ¬ un (cv b) = 0 := fun h => c (un_eq_zero.1 h)
    rw [if_neg c, erz_ne c]
    simp -implicitDefEqProofs only [Option.bind_some, if_true, c', if_false, good_un]
    refine Ev.bind (abacistref02_Mul_ev (un_lo _) hB) ?_
    rw [cv_un, inv_mul c, un_one]
    simp -implicitDefEqProofs only [if_true]
    refine Ev.bind (abacistref02_Mul_ev (un_lo _) hB) ?_
    have e : cv a * inv (cv b) * cv b = cv a := by
      have := mul_inv c
      generalize inv (cv b) = y at *
      grind
    rw [cv_un, e, abacistref02_Of_eq hA.1]
    simp -implicitDefEqProofs only [Option.bind_some, beq_self_eq_true]
    exact Ev.now _
end Go.Proofs.Ytalfhpghmoikoaa.Pure
