/- GoldPowers: for any words a, n, m the law's call answers true: powers are the reference's, exponents' sums (of halves) are powers' products, and the power P - 1 is 1 of each a but 0 in the field. No condition beyond the kinds of the arguments. -/
import Derived.Test.YtalfhpghmoikoaaBGoldPowers
namespace Go.Proofs.Ytalfhpghmoikoaa.Pure
set_option linter.unusedVariables false
set_option linter.unusedSimpArgs false
open Go Go.RowKit Go.Proofs.Ytalfhpghmoikoaa.M Go.Proofs.Ytalfhpghmoikoaa.BGoldPowers Go.Proofs.Ytalfhpghmoikoaa.PGoldPowers Go.Proofs.YtalfhpghmoikoaaW.PrintWords Go.Proofs.YtalfhpghmoikoaaW.PrintLast Go.Proofs.YtalfhpghmoikoaaW.PrintMore
theorem half_word {n : Int} (h : U n) : IntKind.u64.wrap (Int.tdiv n 2) = n / 2 := by
  have := h.1; have := h.2
  rw [Int.tdiv_eq_ediv_of_nonneg h.1, wu64]; omega
theorem GoldPowers_j0 {a n m x : Int} (hA : U a) (hN : U n) (hM : U m) (hs : U (n + m)) (hx : un (cv a ^ 18446744069414584320) = x) : Ev (fun k => abacistlaw02_GoldPowers.j0 k a n m x) true := by
  refine Ev.step (fun k => abacistlaw02_GoldPowers.j0.eq_2 ..) ?_
  refine Ev.bind (gold_Pow_ev hA hN) ?_
  refine Ev.bind (abacistref02_Pow_ev hA.1 hN) ?_
  simp -implicitDefEqProofs only [if_true]
  refine Ev.bind (gold_Pow_ev hA hN) ?_
  refine Ev.bind (gold_Pow_ev hA hM) ?_
  rw [wu64_of hs]
  simp -implicitDefEqProofs only [gold_Mul_eq (U_un _) (U_un _), cv_un, Option.bind_some]
  refine Ev.bind (gold_Pow_ev hA hs) ?_
  have e : cv a ^ n.toNat * cv a ^ m.toNat = cv a ^ (n + m).toNat := by
    rw [← pow_add']; congr 1; have := hN.1; have := hM.1; omega
  simp -implicitDefEqProofs only [e, if_true]
  refine Ev.bind (gold_Pow_ev hA ⟨by omega, by omega⟩) ?_
  rw [show (18446744069414584320 : Int).toNat = 18446744069414584320 from rfl, hx, beq_self_eq_true]
  exact Ev.now _
theorem GoldPowers : abacistlaw02_GoldPowers.Pure := by
  intro a n m ha hn hm
  have hA := U_of_wf ha
  have hN := U_of_wf hn
  have hM := U_of_wf hm
  refine Ev.rounds (g := fun k => abacistlaw02_GoldPowers.f k a n m) ?_
  unfold abacistlaw02_GoldPowers.f
  refine Ev.bind abacistlaw02_awake_ev ?_
  rw [half_word hN, half_word hM, gold_Of_eq hA]
  have h1 := hN.1; have h2 := hN.2; have h3 := hM.1; have h4 := hM.2
  by_cases c : cv a = 0
  · have c' : un (cv a) = 0 := un_eq_zero.2 c
    simp -implicitDefEqProofs only [Option.bind_some, c', if_true]
    refine GoldPowers_j0 hA ⟨by omega, by omega⟩ ⟨by omega, by omega⟩ ⟨by omega, by omega⟩ ?_
    rw [c]
    have : ∀ k : Nat, (0 : F) ^ (k + 1) = 0 := fun k => by grind
    rw [this 18446744069414584319]; rfl
  · have c' : ¬ un (cv a) = 0 := fun h => c (un_eq_zero.1 h)
    simp -implicitDefEqProofs only [Option.bind_some, c', if_false, if_true]
    refine GoldPowers_j0 hA ⟨by omega, by omega⟩ ⟨by omega, by omega⟩ ⟨by omega, by omega⟩ ?_
    rw [fermat _ c, un_one]
end Go.Proofs.Ytalfhpghmoikoaa.Pure
