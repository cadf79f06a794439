/- GoldOps: for any two words a, b the law's call answers true: sums, differences, negatives and products of the code are the reference's. No condition beyond the kinds of the arguments. -/
import Derived.Test.YtalfhpghmoikoaaBGoldOps
namespace Go.Proofs.Ytalfhpghmoikoaa.Pure
set_option linter.unusedVariables false
set_option linter.unusedSimpArgs false
open Go Go.RowKit Go.Proofs.Ytalfhpghmoikoaa.M Go.Proofs.Ytalfhpghmoikoaa.BGoldOps Go.Proofs.Ytalfhpghmoikoaa.PGoldOps Go.Proofs.YtalfhpghmoikoaaW.PrintWords Go.Proofs.YtalfhpghmoikoaaW.PrintLast Go.Proofs.YtalfhpghmoikoaaW.PrintMore
theorem GoldOps : abacistlaw02_GoldOps.Pure := by
  intro a b ha hb
  have hA := U_of_wf ha
  have hB := U_of_wf hb
  refine Ev.rounds (g := fun k => abacistlaw02_GoldOps.f k a b) ?_
  unfold abacistlaw02_GoldOps.f
  refine Ev.bind abacistlaw02_awake_ev ?_
  have e0 : (0 : F) - cv a = - cv a := by grind
  simp only [if_true, gold_Good_eq, gold_Of_eq hA, abacistref02_Of_eq hA.1, gold_Add_eq hA hB, abacistref02_Add_eq hA.1 hB.1, gold_Sub_eq hA hB, abacistref02_Sub_eq hA.1 hB.1, gold_Neg_eq hA, abacistref02_Sub_eq (Int.le_refl 0) hA.1, gold_Mul_eq hA hB, Option.bind_some, beq_self_eq_true, cv_zero, e0]
  refine Ev.bind (abacistref02_Mul_ev hA.1 hB) ?_
  rw [beq_self_eq_true]
  exact Ev.now _
end Go.Proofs.Ytalfhpghmoikoaa.Pure
