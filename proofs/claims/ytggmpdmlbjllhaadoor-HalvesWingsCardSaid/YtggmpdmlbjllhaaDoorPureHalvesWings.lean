/- HalvesWings: for any words a, b, w the law's call answers true: a butterfly's sum and difference are a + b w and a - b w in the field, and their sum is twice a. Conditions: math/bits' listed table reads as the row says. -/
import Derived.Test.YtggmpdmlbjllhaaDoorBHalvesWings
namespace Go.Proofs.YtggmpdmlbjllhaaDoor.Pure
set_option linter.unusedVariables false
set_option linter.unusedSimpArgs false
open Go Go.RowKit Go.Proofs.YtggmpdmlbjllhaaDoor.M Go.Proofs.YtggmpdmlbjllhaaDoor.BHalvesWings Go.Proofs.YtggmpdmlbjllhaaDoor.PHalvesWings Go.Proofs.YtggmpdmlbjllhaaDoorW.PrintWords Go.Proofs.YtggmpdmlbjllhaaDoorW.PrintLast Go.Proofs.YtggmpdmlbjllhaaDoorW.PrintMore
theorem HalvesWings : abacistlaw09_HalvesWings.Pure := by
  intro a b w ha0 hb0 hw0
  have ha := U_of_wf ha0
  have hb := U_of_wf hb0
  have hw := U_of_wf hw0
  refine Ev.rounds (g := fun n => abacistlaw09_HalvesWings.f n a b w) ?_
  unfold abacistlaw09_HalvesWings.f
  refine Ev.bind abacistlaw09_awake_ev ?_
  simp -implicitDefEqProofs only [if_true, kern2_Butterfly_eq ha hb hw, Option.bind_some]
  refine Ev.bind (abacistref02_Mul_ev hb.1 hw) ?_
  simp -implicitDefEqProofs only [abacistref02_Add_eq ha.1 (un_lo _), cv_un, Option.bind_some, if_true]
  refine Ev.bind (abacistref02_Mul_ev hb.1 hw) ?_
  simp -implicitDefEqProofs only [abacistref02_Sub_eq ha.1 (un_lo _), cv_un, Option.bind_some, if_true, abacistref02_Add_eq (un_lo _) (un_lo _)]
  refine Ev.bind (abacistref02_Mul_ev ha.1 (show U 2 from ⟨by omega, by omega⟩)) ?_
  have e : un (cv a + cv b * cv w + (cv a - cv b * cv w)) = un (cv a * cv 2) := by
    congr 1
    rw [show cv 2 = 1 + 1 by rw [show (2 : Int) = 1 + 1 by rfl, cv_add, cv_one]]
    exact k _ _
  rw [e, beq_self_eq_true]
  exact Ev.now _
where
  k {R : Nat} [NeZero R] (x y : Fin R) : x + y + (x - y) = x * (1 + 1) := by grind
end Go.Proofs.YtggmpdmlbjllhaaDoor.Pure
