/- RootPowers: for any word w and any number n the law's call answers true: where n is outside 0 to 2^20 it is refused, and of at most 64 the powers are the reference's. No condition beyond the kinds of the arguments. -/
import Derived.Test.YtalfhpghmoikoaaBRootPowers
namespace Go.Proofs.Ytalfhpghmoikoaa.Pure
set_option linter.unusedVariables false
set_option linter.unusedSimpArgs false
open Go Go.RowKit Go.Proofs.Ytalfhpghmoikoaa.M Go.Proofs.Ytalfhpghmoikoaa.BRootPowers Go.Proofs.Ytalfhpghmoikoaa.PRootPowers Go.Proofs.YtalfhpghmoikoaaW.PrintWords Go.Proofs.YtalfhpghmoikoaaW.PrintLast Go.Proofs.YtalfhpghmoikoaaW.PrintMore
theorem RootPowers_l0 (m : Nat) (hm : m ≤ 64) (f : Nat → F) : Ev (fun k => abacistlaw03_RootPowers.l0 k (tab m f) (tab m f) 0) true := by
  refine Ev_loop m (fun k i => abacistlaw03_RootPowers.l0 k (tab m f) (tab m f) (i : Int)) ?_ (fun i hi ih => ?_) 0 (Nat.zero_le _)
  · refine Ev.step (fun k => abacistlaw03_RootPowers.l0.eq_2 ..) ?_
    simp -implicitDefEqProofs only [tab_length, Int.lt_irrefl, if_false]
    exact Ev.now _
  · refine Ev.step (fun k => abacistlaw03_RootPowers.l0.eq_2 ..) ?_
    have c1 : (i : Int) < (m : Int) := by omega
    have c2 : (0 : Int) ≤ (i : Int) := by omega
    simp -implicitDefEqProofs only [tab_length, c1, c2, if_true, nat64_succ (show i < 9223372036854775807 by omega)]
    exact ih
theorem RootPowers : abacistlaw03_RootPowers.Pure := by
  intro w n hw hn
  have hW := U_of_wf hw
  refine Ev.rounds (g := fun k => abacistlaw03_RootPowers.f k w n) ?_
  unfold abacistlaw03_RootPowers.f
  refine Ev.bind abacistlaw03_awake_ev ?_
  simp -implicitDefEqProofs only [if_true]
  by_cases h1 : n > 64
  · simp -implicitDefEqProofs only [h1, if_true]
    refine Ev.step (fun k => abacistlaw03_RootPowers.j0.eq_2 ..) ?_
    by_cases h2 : n ≤ 1048576
    · simp -implicitDefEqProofs only [decide_eq_true h2, if_true]; exact Ev.now _
    · simp -implicitDefEqProofs only [decide_eq_false h2, show ¬ (false = true) by decide, if_false]
      refine Ev.bind (root_Powers_no (.inr (by omega))) ?_
      simp -implicitDefEqProofs only [show ¬ n < 0 by omega, if_false, decide_eq_true (show n > 1048576 by omega)]
      refine Ev.step (fun k => abacistlaw03_RootPowers.j1.eq_2 ..) ?_
      simp -implicitDefEqProofs only [if_true]
      exact Ev.now _
  · simp -implicitDefEqProofs only [h1, if_false]
    refine Ev.step (fun k => abacistlaw03_RootPowers.j0.eq_2 ..) ?_
    by_cases h2 : n < 0
    · refine Ev.bind (root_Powers_no (.inl h2)) ?_
      simp -implicitDefEqProofs only [h2, if_true]
      refine Ev.step (fun k => abacistlaw03_RootPowers.j1.eq_2 ..) ?_
      simp -implicitDefEqProofs only [if_true]
      exact Ev.now _
    · obtain ⟨m, rfl⟩ := Int.eq_ofNat_of_zero_le (show 0 ≤ n by omega)
      refine Ev.bind (root_Powers_ev hW (by omega)) ?_
      simp -implicitDefEqProofs only [h2, if_false, decide_eq_false (show ¬ (m : Int) > 1048576 by omega)]
      refine Ev.step (fun k => abacistlaw03_RootPowers.j1.eq_2 ..) ?_
      refine Ev.bind (abacistref03_Powers_ev hW.1 (by omega)) ?_
      simp -implicitDefEqProofs only [if_true, tab_length, bne_self_eq_false]
      refine Ev.step (fun k => abacistlaw03_RootPowers.j2.eq_2 ..) ?_
      exact RootPowers_l0 m (by omega) _
end Go.Proofs.Ytalfhpghmoikoaa.Pure
