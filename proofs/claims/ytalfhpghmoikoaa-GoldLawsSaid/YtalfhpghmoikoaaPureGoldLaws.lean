/- GoldLaws: for any three words the law's call answers true: sums and products commute and associate, products share out over sums, a sum less a summand is the other one, all answers are canonical. No condition beyond the kinds of the arguments. -/
import Derived.Test.YtalfhpghmoikoaaBGoldLaws
namespace Go.Proofs.Ytalfhpghmoikoaa.Pure
set_option linter.unusedVariables false
set_option linter.unusedSimpArgs false
open Go Go.RowKit Go.Proofs.Ytalfhpghmoikoaa.M Go.Proofs.Ytalfhpghmoikoaa.BGoldLaws Go.Proofs.Ytalfhpghmoikoaa.PGoldLaws Go.Proofs.YtalfhpghmoikoaaW.PrintWords Go.Proofs.YtalfhpghmoikoaaW.PrintLast Go.Proofs.YtalfhpghmoikoaaW.PrintMore
theorem laws_1 (a b : F) : b + a = a + b := by grind
theorem laws_2 (a b : F) : b * a = a * b := by grind
theorem laws_3 (a b c : F) : a + (b + c) = a + b + c := by grind
theorem laws_4 (a b c : F) : a * (b * c) = a * b * c := by grind
theorem laws_5 (a b c : F) : a * (b + c) = a * b + a * c := by grind
theorem laws_6 (a b : F) : a + b - b = a := by grind
theorem laws_7 (a : F) : a * cv 1 = a := by rw [cv_one]; grind
theorem laws_8 (x : F) : decide (un x < 18446744069414584321) = true := decide_eq_true (un_hi x)
theorem GoldLaws : abacistlaw02_GoldLaws.Pure := by
  intro a b c ha hb hc
  have hA := U_of_wf ha
  have hB := U_of_wf hb
  have hC := U_of_wf hc
  refine Ev.rounds (g := fun k => abacistlaw02_GoldLaws.f k a b c) ?_
  unfold abacistlaw02_GoldLaws.f
  refine Ev.bind abacistlaw02_awake_ev ?_
  simp -implicitDefEqProofs only [if_true, gold_Of_eq hA, gold_Add_eq hA hB, gold_Add_eq hB hA, gold_Add_eq hB hC, gold_Mul_eq hA hB, gold_Mul_eq hB hA, gold_Mul_eq hB hC, gold_Mul_eq hA hC, gold_Mul_eq hA (U_un _), gold_Mul_eq (U_un _) hC, gold_Add_eq (U_un _) hC, gold_Add_eq hA (U_un _), gold_Sub_eq (U_un _) hB, gold_Add_eq (U_un _) (U_un _), gold_Mul_eq hA (show U 1 from ⟨by omega, by omega⟩), Option.bind_some, cv_un, laws_1 (cv a) (cv b), laws_2 (cv a) (cv b), laws_3, laws_4, laws_5, laws_6, laws_7, laws_8, gold_Good_eq]
  exact Ev.now _
end Go.Proofs.Ytalfhpghmoikoaa.Pure
