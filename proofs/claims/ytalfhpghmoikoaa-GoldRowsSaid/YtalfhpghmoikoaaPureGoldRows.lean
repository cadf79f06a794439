/- GoldRows: for any two rows of words the law's call answers true: of at most 20 words each, sums, products and sums of products are the reference's, word by word, and rows of unlike lengths are refused. The rows' own lengths are bounded as the statement's kinds bound them. -/
import Derived.Test.YtalfhpghmoikoaaBGoldRows
namespace Go.Proofs.Ytalfhpghmoikoaa.Pure
set_option linter.unusedVariables false
set_option linter.unusedSimpArgs false
open Go Go.RowKit Go.Proofs.Ytalfhpghmoikoaa.M Go.Proofs.Ytalfhpghmoikoaa.BGoldRows Go.Proofs.Ytalfhpghmoikoaa.PGoldRows Go.Proofs.YtalfhpghmoikoaaW.PrintWords Go.Proofs.YtalfhpghmoikoaaW.PrintLast Go.Proofs.YtalfhpghmoikoaaW.PrintMore
theorem GoldRows_l1 {a b : List Int} (hA : UL a) (hB : UL b) (hab : a.length = b.length) (hl : a.length ≤ 20) :
    Ev (fun k => abacistlaw02_GoldRows.l1 k a b (un (Sm a.length (fun j => co a j * co b j))) 0 0 0) true := by
  refine Ev_loop a.length (fun k i => abacistlaw02_GoldRows.l1 k a b (un (Sm a.length (fun j => co a j * co b j))) 0 (un (Sm i (fun j => co a j * co b j))) (i : Int)) ?_ (fun i hi ih => ?_) 0 (Nat.zero_le _)
  · refine Ev.step (fun k => abacistlaw02_GoldRows.l1.eq_2 ..) ?_
    simp -implicitDefEqProofs only [Int.lt_irrefl, if_false, if_true, beq_self_eq_true]
    exact Ev.now _
  · refine Ev.step (fun k => abacistlaw02_GoldRows.l1.eq_2 ..) ?_
    have c1 : (i : Int) < (a.length : Int) := by omega
    have c2 : (0 : Int) ≤ (i : Int) := by omega
    have c3 : (i : Int) < (b.length : Int) := by omega
    simp -implicitDefEqProofs only [c1, c2, c3, if_true]
    refine Ev.bind (abacistref02_Mul_ev (U_rd hA _).1 (U_rd hB _)) ?_
    simp -implicitDefEqProofs only [abacistref02_Add_eq (un_lo _) (un_lo _), Option.bind_some, cv_un, cv_rd, nat64_succ (show i < 9223372036854775807 by omega)]
    exact ih
theorem GoldRows_j2 {a b : List Int} (hA : UL a) (hB : UL b) (hl : a.length ≤ 20) : Ev (fun k => abacistlaw02_GoldRows.j2 k a b false) true := by
  refine Ev.step (fun k => abacistlaw02_GoldRows.j2.eq_2 ..) ?_
  by_cases hab : a.length = b.length
  · refine Ev.bind (gold_Dot_ev hA hB hab (by omega)) ?_
    have c : (a.length : Int) = (b.length : Int) := by omega
    simp -implicitDefEqProofs only [c, if_true]
    exact GoldRows_l1 hA hB hab hl
  · refine Ev.bind (gold_Dot_odd hab) ?_
    have c : ¬ (a.length : Int) = (b.length : Int) := by omega
    simp -implicitDefEqProofs only [c, if_false, if_true, beq_self_eq_true]
    exact Ev.now _
theorem GoldRows_l0 {a b : List Int} (hA : UL a) (hB : UL b) (hl : a.length ≤ 20) : Ev (fun k => abacistlaw02_GoldRows.l0 k a b 0 1 0) true := by
  rw [show (1 : Int) = un (Pm 0 (co a)) from un_one.symm]
  refine Ev_loop a.length (fun k i => abacistlaw02_GoldRows.l0 k a b (un (Sm i (co a))) (un (Pm i (co a))) (i : Int)) ?_ (fun i hi ih => ?_) 0 (Nat.zero_le _)
  · refine Ev.step (fun k => abacistlaw02_GoldRows.l0.eq_2 ..) ?_
    simp -implicitDefEqProofs only [Int.lt_irrefl, if_false]
    refine Ev.bind (gold_Sum_ev hA (by omega)) ?_
    simp -implicitDefEqProofs only [if_true]
    refine Ev.bind (gold_Product_ev hA (by omega)) ?_
    rw [bne_self_eq_false]
    exact GoldRows_j2 hA hB hl
  · refine Ev.step (fun k => abacistlaw02_GoldRows.l0.eq_2 ..) ?_
    have c1 : (i : Int) < (a.length : Int) := by omega
    have c2 : (0 : Int) ≤ (i : Int) := by omega
    simp -implicitDefEqProofs only [c1, c2, if_true, abacistref02_Add_eq (un_lo _) (U_rd hA _).1, Option.bind_some, cv_un, cv_rd]
    refine Ev.bind (abacistref02_Mul_ev (un_lo _) (U_rd hA _)) ?_
    simp -implicitDefEqProofs only [cv_un, cv_rd, nat64_succ (show i < 9223372036854775807 by omega)]
    exact ih
theorem GoldRows : abacistlaw02_GoldRows.Pure := by
  intro a b ha0 ha1 ha hb0 hb1 hb
  have hA := UL_of_wf ha
  have hB := UL_of_wf hb
  refine Ev.rounds (g := fun k => abacistlaw02_GoldRows.f k a b) ?_
  unfold abacistlaw02_GoldRows.f
  refine Ev.bind abacistlaw02_awake_ev ?_
  simp -implicitDefEqProofs only [if_true]
  by_cases c : (a.length : Int) > 20
  · simp -implicitDefEqProofs only [c, if_true]
    refine Ev.step (fun k => abacistlaw02_GoldRows.j0.eq_2 ..) ?_
    simp -implicitDefEqProofs only [if_true]
    exact Ev.now _
  · simp -implicitDefEqProofs only [c, if_false]
    refine Ev.step (fun k => abacistlaw02_GoldRows.j0.eq_2 ..) ?_
    by_cases d : (b.length : Int) > 20
    · simp -implicitDefEqProofs only [decide_eq_true d, if_true]
      exact Ev.now _
    · simp -implicitDefEqProofs only [decide_eq_false d, show ¬ (false = true) by decide, if_false]
      exact GoldRows_l0 hA hB (by omega)
end Go.Proofs.Ytalfhpghmoikoaa.Pure
