/- GoldInvs: for any row of words the law's call answers true: of at most 20 words, the inverses are those of its words, and else the first word that has none is told. The row's own length is bounded as the statement's kinds bound it. -/
import Derived.Test.YtalfhpghmoikoaaBGoldInvs
namespace Go.Proofs.Ytalfhpghmoikoaa.Pure
set_option linter.unusedVariables false
set_option linter.unusedSimpArgs false
open Go Go.RowKit Go.Proofs.Ytalfhpghmoikoaa.M Go.Proofs.Ytalfhpghmoikoaa.BGoldInvs Go.Proofs.Ytalfhpghmoikoaa.PGoldInvs Go.Proofs.YtalfhpghmoikoaaW.PrintWords Go.Proofs.YtalfhpghmoikoaaW.PrintLast Go.Proofs.YtalfhpghmoikoaaW.PrintMore
theorem GoldInvs_l1 {l : List Int} (h : UL l) (hl : l.length ≤ 20) (hn : ∀ i, i < l.length → co l i ≠ 0) : Ev (fun k => abacistlaw02_GoldInvs.l1 k l (tab l.length (fun i => inv (co l i))) 0) true := by
  refine Ev_loop l.length (fun k i => abacistlaw02_GoldInvs.l1 k l (tab l.length (fun i => inv (co l i))) (i : Int)) ?_ (fun i hi ih => ?_) 0 (Nat.zero_le _)
  · refine Ev.step (fun k => abacistlaw02_GoldInvs.l1.eq_2 ..) ?_
    simp -implicitDefEqProofs only [Int.lt_irrefl, if_false]
    exact Ev.now _
  · refine Ev.step (fun k => abacistlaw02_GoldInvs.l1.eq_2 ..) ?_
    have c1 : (i : Int) < (l.length : Int) := by omega
    have c2 : (0 : Int) ≤ (i : Int) := by omega
    have g : gold_Good.f (un (inv (co l i))) = some true := by rw [gold_Good_eq, decide_eq_true (un_hi _)]
    simp -implicitDefEqProofs only [c1, c2, tab_length, rd_tab hi, g, Option.bind_some, if_true]
    refine Ev.bind (abacistref02_Mul_ev (un_lo _) (U_rd h _)) ?_
    rw [cv_un, cv_rd, inv_mul (hn i hi), un_one]
    simp -implicitDefEqProofs only [if_true, nat64_succ (show i < 9223372036854775807 by omega)]
    exact ih
theorem GoldInvs : abacistlaw02_GoldInvs.Pure := by
  intro l h0 h1 h2
  have h := UL_of_wf h2
  refine Ev.rounds (g := fun k => abacistlaw02_GoldInvs.f k l) ?_
  unfold abacistlaw02_GoldInvs.f
  refine Ev.bind abacistlaw02_awake_ev ?_
  simp -implicitDefEqProofs only [if_true]
  by_cases c : (l.length : Int) > 20
  · simp -implicitDefEqProofs only [c, if_true]; exact Ev.now _
  · simp -implicitDefEqProofs only [c, if_false]
    rcases first_zero (co l) l.length with hn | ⟨m, hm, hn, hz⟩
    · refine Ev.bind (gold_Invs_ev h (by omega) hn) ?_
      refine Ev_loop l.length (fun k i => abacistlaw02_GoldInvs.l0 k l (tab l.length (fun i => inv (co l i))) 0 0 (i : Int)) ?_ (fun i hi ih => ?_) 0 (Nat.zero_le _)
      · refine Ev.step (fun k => abacistlaw02_GoldInvs.l0.eq_2 ..) ?_
        simp -implicitDefEqProofs only [Int.lt_irrefl, if_false, if_true, tab_length, bne_self_eq_false]
        refine Ev.step (fun k => abacistlaw02_GoldInvs.j1.eq_2 ..) ?_
        exact GoldInvs_l1 h (by omega) hn
      · refine Ev.step (fun k => abacistlaw02_GoldInvs.l0.eq_2 ..) ?_
        have c1 : (i : Int) < (l.length : Int) := by omega
        have c2 : (0 : Int) ≤ (i : Int) := by omega
        have c3 : ¬ un (co l i) = 0 := fun hh => hn i hi (un_eq_zero.1 hh)
        simp -implicitDefEqProofs only [c1, c2, if_true, abacistref02_Of_eq (U_rd h _).1, cv_rd, Option.bind_some, c3, if_false, nat64_succ (show i < 9223372036854775807 by omega)]
        exact ih
    · refine Ev.bind (gold_Invs_zero h (by omega) m hm hn hz) ?_
      refine Ev_loop m (fun k i => abacistlaw02_GoldInvs.l0 k l [] (m : Int) 13 (i : Int)) ?_ (fun i hi ih => ?_) 0 (Nat.zero_le _)
      · refine Ev.step (fun k => abacistlaw02_GoldInvs.l0.eq_2 ..) ?_
        have c1 : (m : Int) < (l.length : Int) := by omega
        have c2 : (0 : Int) ≤ (m : Int) := by omega
        simp -implicitDefEqProofs only [c1, c2, if_true, abacistref02_Of_eq (U_rd h _).1, cv_rd, Option.bind_some, hz, un_zero]
        exact Ev.now _
      · refine Ev.step (fun k => abacistlaw02_GoldInvs.l0.eq_2 ..) ?_
        have c1 : (i : Int) < (l.length : Int) := by omega
        have c2 : (0 : Int) ≤ (i : Int) := by omega
        have c3 : ¬ un (co l i) = 0 := fun hh => hn i hi (un_eq_zero.1 hh)
        simp -implicitDefEqProofs only [c1, c2, if_true, abacistref02_Of_eq (U_rd h _).1, cv_rd, Option.bind_some, c3, if_false, nat64_succ (show i < 9223372036854775807 by omega)]
        exact ih
end Go.Proofs.Ytalfhpghmoikoaa.Pure
