/- PolyRoots: for any row of words the law's call answers true: of at most 20 words, the polynomial of these roots is the product of all x - a, its value at each is 0, and it has one coefficient more than there are roots. The row's own length is bounded as the statement's kinds bound it. -/
import Derived.Test.YtlifdpaamcdmfaaBPolyRoots
namespace Go.Proofs.Ytlifdpaamcdmfaa.Pure
set_option linter.unusedVariables false
set_option linter.unusedSimpArgs false
open Go Go.RowKit Go.Proofs.Ytlifdpaamcdmfaa.M Go.Proofs.Ytlifdpaamcdmfaa.BPolyRoots Go.Proofs.Ytlifdpaamcdmfaa.PPolyRoots Go.Proofs.YtlifdpaamcdmfaaW.PrintWords Go.Proofs.YtlifdpaamcdmfaaW.PrintLast Go.Proofs.YtlifdpaamcdmfaaW.PrintMore
theorem PolyRoots : abacistlaw07_PolyRoots.Pure := by
  intro l h0 h1 h2
  have h := UL_of_wf h2
  refine Ev.rounds (g := fun k => abacistlaw07_PolyRoots.f k l) ?_
  unfold abacistlaw07_PolyRoots.f
  refine Ev.bind abacistlaw07_awake_ev ?_
  simp -implicitDefEqProofs only [if_true]
  by_cases c : (l.length : Int) > 20
  · simp -implicitDefEqProofs only [c, if_true]; exact Ev.now _
  · simp -implicitDefEqProofs only [c, if_false]
    refine Ev.bind (poly_FromRoots_ev h (by omega)) ?_
    rw [show [(1 : Int)] = tab (0 + 1) (frp 0 (co l)) from tab_one.symm]
    refine Ev_loop l.length (fun k i => abacistlaw07_PolyRoots.l0 k l (tab (l.length + 1) (frp l.length (co l))) 0 (tab (i + 1) (frp i (co l))) (i : Int)) ?_ (fun i hi ih => ?_) 0 (Nat.zero_le _)
    · refine Ev.step (fun k => abacistlaw07_PolyRoots.l0.eq_2 ..) ?_
      simp -implicitDefEqProofs only [Int.lt_irrefl, if_false, if_true]
      refine Ev.bind (abacistref04_Same_refl _ (by rw [tab_length]; omega)) ?_
      simp -implicitDefEqProofs only [if_true, tab_length, nat64_succ (show l.length < 9223372036854775807 by omega), beq_self_eq_true]
      exact Ev.now _
    · refine Ev.step (fun k => abacistlaw07_PolyRoots.l0.eq_2 ..) ?_
      have c1 : (i : Int) < (l.length : Int) := by omega
      have c2 : (0 : Int) ≤ (i : Int) := by omega
      simp -implicitDefEqProofs only [c1, c2, if_true]
      refine Ev.bind (abacistref07_At_ev (UL_tab _ _) (by rw [tab_length]; omega) (U_rd h _)) ?_
      have e : ev (tab (l.length + 1) (frp l.length (co l))).length (co (tab (l.length + 1) (frp l.length (co l)))) (cv (rd l (i : Int))) = 0 := by
        rw [tab_length, co_tab_out (frp_out _ _), ev_frp, cv_rd]
        exact Pm_eq_zero hi (sub_self' _)
      rw [e, un_zero]
      have e3 : (0 : F) - co l i = - co l i := z _
      simp -implicitDefEqProofs only [if_true, abacistref02_Sub_eq (Int.le_refl 0) (U_rd h _).1, Option.bind_some, cv_zero, cv_rd, e3]
      refine Ev.bind (abacistref07_Mul_ev (UL_tab _ _) (UL_cons (U_un _) (UL_cons U_one UL_nil)) ?_) ?_
      · rw [tab_length]; simp only [List.length_cons, List.length_nil]; omega
      · rw [times_lin _ _ (by rw [tab_length]; simp only [List.length_cons, List.length_nil]; omega)]
        simp -implicitDefEqProofs only [nat64_succ (show i < 9223372036854775807 by omega)]
        exact ih
where z (a : F) : 0 - a = -a := by grind
end Go.Proofs.Ytlifdpaamcdmfaa.Pure
