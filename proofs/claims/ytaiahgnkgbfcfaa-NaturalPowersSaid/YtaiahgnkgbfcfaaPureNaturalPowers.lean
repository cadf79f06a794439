/- NaturalPowers: for any row of 64-bit words and any number the law's call answers true: of a number of at most 8 digits of the base and a power of at most 12 natural.Power is a product of as many; what is not right, or a power below 0, is refused by name. Conditions: the row reads as a row. -/
import Derived.Test.YtaiahgnkgbfcfaaBNaturalPowers
namespace Go.Proofs.Ytaiahgnkgbfcfaa.Pure
set_option linter.unusedVariables false
set_option linter.unusedSimpArgs false
open Go Go.RowKit Go.Proofs.Ytaiahgnkgbfcfaa.M Go.Proofs.Ytaiahgnkgbfcfaa.BNaturalPowers Go.Proofs.Ytaiahgnkgbfcfaa.PNaturalPowers Go.Proofs.YtaiahgnkgbfcfaaW.PrintWords Go.Proofs.YtaiahgnkgbfcfaaW.PrintLast Go.Proofs.YtaiahgnkgbfcfaaW.PrintMore
theorem powers_go {a : List Int} (ha : UL a) (hl : a.length ≤ 8) {n : Int} (hn : n ≤ 12) : Ev (fun k => abacistlaw31_NaturalPowers.j0 k a n false) true := by
  refine Ev.step (fun k => abacistlaw31_NaturalPowers.j0.eq_2 ..) ?_
  simp -implicitDefEqProofs only [Bool.false_eq_true, if_false]
  rcases hg : hk_good a with _ | _
  · refine Ev.bind (natural_Power_no hg) ?_
    refine Ev.bind (ref31_Good_ev ha (by omega)) ?_
    rw [hg]
    simp -implicitDefEqProofs only [Bool.false_eq_true, if_false, if_true, List.length_nil, show ((0 : Nat) : Int) = 0 from rfl, beq_self_eq_true]
    exact Ev.now _
  · have hN := ((hk_good_iff ha).1 hg).1
    by_cases c : n < 0
    · refine Ev.bind (natural_Power_neg hg c) ?_
      refine Ev.bind (ref31_Good_ev ha (by omega)) ?_
      rw [hg]
      simp -implicitDefEqProofs only [if_true, c, List.length_nil, show ((0 : Nat) : Int) = 0 from rfl, beq_self_eq_true]
      exact Ev.now _
    · obtain ⟨m, rfl⟩ := Int.eq_ofNat_of_zero_le (show 0 ≤ n by omega)
      have len : ∀ i, i ≤ m → (dgs (nv a ^ i)).length ≤ 96 := fun i hi => by
        apply dgs_length_lt
        have h1 := nv_lt hN.Dg
        have h2 : nv a < 65536 ^ 8 := Nat.lt_of_lt_of_le h1 (Nat.pow_le_pow_right (by decide) hl)
        rcases Nat.eq_zero_or_pos i with e | e
        · rw [e, Nat.pow_zero]; exact Nat.lt_of_lt_of_le (show 1 < 65536 ^ 1 by decide) (Nat.pow_le_pow_right (by decide) (by decide))
        · have h3 := Nat.pow_lt_pow_left h2 (show i ≠ 0 by omega)
          rw [← Nat.pow_mul] at h3
          exact Nat.lt_of_lt_of_le h3 (Nat.pow_le_pow_right (by decide) (by omega))
      have hlm := len m (Nat.le_refl _)
      refine Ev.bind (natural_Power_ev hN (by omega) (by omega) (by omega)) ?_
      refine Ev.bind (ref31_Good_ev ha (by omega)) ?_
      rw [hg]
      simp -implicitDefEqProofs only [if_true, c, if_false]
      rw [one_dgs, show dgs 1 = dgs (nv a ^ 0) by rw [Nat.pow_zero]]
      refine Ev_loop m (fun k i => abacistlaw31_NaturalPowers.l0 k a (m : Int) (dgs (nv a ^ m)) 0 (dgs (nv a ^ i)) (i : Int)) ?_ (fun i hi ih => ?_) 0 (Nat.zero_le _)
      · refine Ev.step (fun k => abacistlaw31_NaturalPowers.l0.eq_2 ..) ?_
        simp -implicitDefEqProofs only [Int.lt_irrefl, if_false, if_true]
        refine Ev.bind (abacistref04_Same_refl _ (by omega)) ?_
        exact Ev.now _
      · refine Ev.step (fun k => abacistlaw31_NaturalPowers.l0.eq_2 ..) ?_
        have hli := len i (by omega)
        simp -implicitDefEqProofs only [show (i : Int) < (m : Int) by omega, if_true]
        refine Ev.bind (ref31_Mul_ev (Dg_dgs _) hN.Dg (by omega)) ?_
        rw [nv_dgs, ← Nat.pow_succ, nat64_succ (show i < 9223372036854775807 by omega)]
        exact ih
theorem NaturalPowers : abacistlaw31_NaturalPowers.Pure := by
  intro a n _ _ ha hn
  have ha := UL_of_wf ha
  refine Ev.rounds ?_
  unfold abacistlaw31_NaturalPowers.f
  refine Ev.bind abacistlaw31_awake_ev ?_
  simp -implicitDefEqProofs only [if_true]
  have out : Ev (fun k => abacistlaw31_NaturalPowers.j0 k a n true) true := by
    refine Ev.step (fun k => abacistlaw31_NaturalPowers.j0.eq_2 ..) ?_
    simp -implicitDefEqProofs only [if_true]
    exact Ev.now _
  by_cases c1 : (a.length : Int) > 8
  · simp -implicitDefEqProofs only [c1, if_true]
    exact out
  · simp -implicitDefEqProofs only [c1, if_false]
    by_cases c2 : n > 12
    · rw [decide_eq_true c2]; exact out
    · rw [decide_eq_false c2]; exact powers_go ha (by omega) (by omega)
end Go.Proofs.Ytaiahgnkgbfcfaa.Pure
