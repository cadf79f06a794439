/- RootTells: for any numbers k and n the law's call answers true: the root of k and its inverse are the reference's, or refused by name where k is not from 0 to 32; n is told as a power of two just where it is one. Conditions: math/bits' listed table reads as the row says; none beyond the kinds of the arguments. -/
import Derived.Test.YtalfhpghmoikoaaDoorBRootTells
namespace Go.Proofs.YtalfhpghmoikoaaDoor.Pure
set_option linter.unusedVariables false
set_option linter.unusedSimpArgs false
open Go Go.RowKit Go.Proofs.YtalfhpghmoikoaaDoor.M Go.Proofs.YtalfhpghmoikoaaDoor.BRootTells Go.Proofs.YtalfhpghmoikoaaDoor.PRootTells Go.Proofs.YtalfhpghmoikoaaDoorW.PrintWords Go.Proofs.YtalfhpghmoikoaaDoorW.PrintLast Go.Proofs.YtalfhpghmoikoaaDoorW.PrintMore
theorem RootTells_j0 (k : Int) : ∀ x5 x6 x7 x8 : Int, (k < 0 ∨ 32 < k) ∧ x5 = 0 ∧ x6 = 1 ∧ x7 = 0 ∧ x8 = 1 ∨ (∃ q : Nat, q ≤ 32 ∧ k = (q : Int) ∧ x5 = un (rt q) ∧ x6 = 0 ∧ x7 = un (inv (rt q)) ∧ x8 = 0) → Ev (fun m => abacistlaw03_RootTells.j0 m k x5 x6 x7 x8 false) true := by
  rintro x5 x6 x7 x8 (⟨hk, rfl, rfl, rfl, rfl⟩ | ⟨q, hq, rfl, rfl, rfl, rfl, rfl⟩)
  · have last : Ev (fun m => abacistlaw03_RootTells.j1 m k 0 1 0 1 true) true := by
      refine Ev.step (fun m => abacistlaw03_RootTells.j1.eq_2 ..) ?_
      simp -implicitDefEqProofs only [if_true, beq_self_eq_true]
      exact Ev.now _
    refine Ev.step (fun m => abacistlaw03_RootTells.j0.eq_2 ..) ?_
    by_cases h : k < 0
    · simp -implicitDefEqProofs only [show ¬ (false = true) by decide, if_false, h, if_true]
      exact last
    · simp -implicitDefEqProofs only [show ¬ (false = true) by decide, if_false, h, decide_eq_true (show k > 32 by omega)]
      exact last
  · have last : Ev (fun m => abacistlaw03_RootTells.j1 m (q : Int) (un (rt q)) 0 (un (inv (rt q))) 0 false) true := by
      refine Ev.step (fun m => abacistlaw03_RootTells.j1.eq_2 ..) ?_
      simp -implicitDefEqProofs only [show ¬ (false = true) by decide, if_false, if_true]
      refine Ev.bind (abacistref03_Root_ev hq) ?_
      simp -implicitDefEqProofs only [if_true]
      refine Ev.bind (abacistref02_Mul_ev (un_lo _) (U_un _)) ?_
      rw [cv_un, cv_un, mul_inv (rt_ne_zero q), un_one, decide_eq_true (un_hi _)]
      simp -implicitDefEqProofs only [if_true]
      exact Ev.now _
    refine Ev.step (fun m => abacistlaw03_RootTells.j0.eq_2 ..) ?_
    simp -implicitDefEqProofs only [show ¬ (false = true) by decide, if_false, show ¬ (q : Int) < 0 by omega, decide_eq_false (show ¬ (q : Int) > 32 by omega)]
    exact last
theorem RootTells : abacistlaw03_RootTells.Pure := by
  intro k n hk hn
  refine Ev.rounds (g := fun m => abacistlaw03_RootTells.f m k n) ?_
  unfold abacistlaw03_RootTells.f
  refine Ev.bind abacistlaw03_awake_ev ?_
  simp -implicitDefEqProofs only [if_true]
  have tail : ∀ x5 x6 x7 x8 : Int, (k < 0 ∨ 32 < k) ∧ x5 = 0 ∧ x6 = 1 ∧ x7 = 0 ∧ x8 = 1 ∨ (∃ q : Nat, q ≤ 32 ∧ k = (q : Int) ∧ x5 = un (rt q) ∧ x6 = 0 ∧ x7 = un (inv (rt q)) ∧ x8 = 0) → Ev (fun m => (root_Fits.f n).bind fun bt146 => ((abacistref03_Fits.f m n).bind fun t148 => (if (bt146.2 != (decide (t148 ≥ 0))) = true then (abacistlaw03_RootTells.j0 m k x5 x6 x7 x8 true) else (abacistlaw03_RootTells.j0 m k x5 x6 x7 x8 (bt146.1 != (mx t148 0)))))) true := by
    intro x5 x6 x7 x8 h
    rcases fits_cases n with ⟨j, hj, rfl⟩ | h0
    · rw [root_Fits_yes hj]
      simp -implicitDefEqProofs only [Option.bind_some]
      refine Ev.bind (abacistref03_Fits_yes hj) ?_
      have e : mx (j : Int) 0 = (j : Int) := by unfold mx; omega
      simp -implicitDefEqProofs only [decide_eq_true (show (j : Int) ≥ 0 by omega), e, bne_self_eq_false, show ¬ (false = true) by decide, if_false]
      exact RootTells_j0 k _ _ _ _ h
    · rw [root_Fits_no h0]
      simp -implicitDefEqProofs only [Option.bind_some]
      refine Ev.bind (abacistref03_Fits_no h0) ?_
      have e : mx (-1) 0 = 0 := by unfold mx; omega
      simp -implicitDefEqProofs only [decide_eq_false (show ¬ ((-1 : Int) ≥ 0) by omega), e, bne_self_eq_false, show ¬ (false = true) by decide, if_false]
      exact RootTells_j0 k _ _ _ _ h
  by_cases h : k < 0 ∨ 32 < k
  · refine Ev.bind (root_Root_no h) ?_
    refine Ev.bind (root_Back_no h) ?_
    exact tail _ _ _ _ (.inl ⟨h, rfl, rfl, rfl, rfl⟩)
  · obtain ⟨q, rfl⟩ := Int.eq_ofNat_of_zero_le (show 0 ≤ k by omega)
    have hq : q ≤ 32 := by omega
    refine Ev.bind (root_Root_ev hq) ?_
    refine Ev.bind (root_Back_ev hq) ?_
    exact tail _ _ _ _ (.inr ⟨q, hq, rfl, rfl, rfl, rfl, rfl⟩)
end Go.Proofs.YtalfhpghmoikoaaDoor.Pure
