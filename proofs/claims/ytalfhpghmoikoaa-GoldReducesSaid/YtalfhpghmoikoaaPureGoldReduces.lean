/- GoldReduces: for any wide number the law's call answers true: what it leaves, divided by P, is what the reference's long division leaves. No condition beyond the kinds of its two words. -/
import Derived.Test.YtalfhpghmoikoaaBGoldReduces
namespace Go.Proofs.Ytalfhpghmoikoaa.Pure
set_option linter.unusedVariables false
set_option linter.unusedSimpArgs false
open Go Go.RowKit Go.Proofs.Ytalfhpghmoikoaa.M Go.Proofs.Ytalfhpghmoikoaa.BGoldReduces Go.Proofs.Ytalfhpghmoikoaa.PGoldReduces Go.Proofs.YtalfhpghmoikoaaW.PrintWords Go.Proofs.YtalfhpghmoikoaaW.PrintLast Go.Proofs.YtalfhpghmoikoaaW.PrintMore
theorem GoldReduces (hi lo : Int) (h : (Lit.int .u64 hi).wf = true) (h2 : (Lit.int .u64 lo).wf = true) : ∃ k, abacistlaw02_GoldReduces.f k hi lo = some true := by
  have hH := U_of_wf h
  have hL := U_of_wf h2
  refine Ev.rounds (g := fun k => abacistlaw02_GoldReduces.f k hi lo) ?_
  unfold abacistlaw02_GoldReduces.f
  refine Ev.bind abacistlaw02_awake_ev ?_
  simp -implicitDefEqProofs only [if_true, gold_Reduce_eq hH hL, Option.bind_some]
  refine Ev.bind (abacistref02_Reduce_ev hH hL) ?_
  rw [beq_self_eq_true]
  exact Ev.now _
end Go.Proofs.Ytalfhpghmoikoaa.Pure
