/- TwidTells: for any numbers a, b, k and d the law's call answers true: the twiddle of a and b to the root of k and direction d is the reference's (a power of a power); what is no place, no exponent or no direction is refused by name. Conditions: math/bits' listed table reads as the row says; none beyond the kinds of the arguments. -/
import Derived.Test.YtlifdpaamcdmfaaDoorBTwidTells
namespace Go.Proofs.YtlifdpaamcdmfaaDoor.Pure
set_option linter.unusedVariables false
set_option linter.unusedSimpArgs false
open Go Go.RowKit Go.Proofs.YtlifdpaamcdmfaaDoor.M Go.Proofs.YtlifdpaamcdmfaaDoor.BTwidTells Go.Proofs.YtlifdpaamcdmfaaDoor.PTwidTells Go.Proofs.YtlifdpaamcdmfaaDoorW.PrintWords Go.Proofs.YtlifdpaamcdmfaaDoorW.PrintLast Go.Proofs.YtlifdpaamcdmfaaDoorW.PrintMore
theorem TwidTells : abacistlaw08_TwidTells.Pure := by
  intro a b k d ha hb hk hd0
  refine Ev.rounds (g := fun n => abacistlaw08_TwidTells.f n a b k d) ?_
  unfold abacistlaw08_TwidTells.f
  refine Ev.bind abacistlaw08_awake_ev ?_
  simp -implicitDefEqProofs only [if_true]
  by_cases h : k < 0 ∨ 32 < k
  · refine Ev.bind (twid_Twiddle_arg h) ?_
    refine Ev.bind (abacistlaw08_wrong_arg h) ?_
    simp -implicitDefEqProofs only [show ¬ (1 : Int) = 0 by omega, if_false, if_true, beq_self_eq_true]
    exact Ev.now _
  · by_cases hd : d = 0 ∨ d = 1
    · obtain ⟨q, rfl⟩ := Int.eq_ofNat_of_zero_le (show 0 ≤ k by omega)
      have hq : q ≤ 32 := by omega
      by_cases hr : a < 0 ∨ 4294967295 < a ∨ b < 0 ∨ 4294967295 < b
      · refine Ev.bind (twid_Twiddle_range hq hd hr) ?_
        refine Ev.bind (abacistlaw08_wrong_ok h hd) ?_
        have last : Ev (fun n => abacistlaw08_TwidTells.j0 n a b (q : Int) d 0 2 true) true := by
          refine Ev.step (fun n => abacistlaw08_TwidTells.j0.eq_2 ..) ?_
          simp -implicitDefEqProofs only [if_true, beq_self_eq_true]
          exact Ev.now _
        simp -implicitDefEqProofs only [if_true]
        by_cases c1 : a < 0
        · simp -implicitDefEqProofs only [c1, if_true]
          exact last
        · by_cases c2 : b < 0
          · simp -implicitDefEqProofs only [c1, c2, if_true, if_false]
            exact last
          · by_cases c3 : a > 4294967295
            · simp -implicitDefEqProofs only [c1, c2, c3, if_true, if_false]
              exact last
            · simp -implicitDefEqProofs only [c1, c2, c3, if_false, decide_eq_true (show b > 4294967295 by omega)]
              exact last
      · obtain ⟨x, rfl⟩ := Int.eq_ofNat_of_zero_le (show 0 ≤ a by omega)
        obtain ⟨y, rfl⟩ := Int.eq_ofNat_of_zero_le (show 0 ≤ b by omega)
        refine Ev.bind (twid_Twiddle_ev hq hd (a := x) (b := y) (by omega) (by omega)) ?_
        refine Ev.bind (abacistlaw08_wrong_ok h hd) ?_
        have last : Ev (fun n => abacistlaw08_TwidTells.j0 n (x : Int) (y : Int) (q : Int) d (un (dr q d ^ (x * y))) 0 false) true := by
          refine Ev.step (fun n => abacistlaw08_TwidTells.j0.eq_2 ..) ?_
          simp -implicitDefEqProofs only [show ¬ (false = true) by decide, if_false, if_true, wu64_of (U_nat (n := x) (by omega)), wu64_of (U_nat (n := y) (by omega))]
          refine Ev.bind (abacistref08_Root_ev hq hd) ?_
          refine Ev.bind (abacistref02_Pow_ev (un_lo _) (U_nat (by omega))) ?_
          refine Ev.bind (abacistref02_Pow_ev (un_lo _) (U_nat (by omega))) ?_
          rw [cv_un, cv_un, Int.toNat_natCast, Int.toNat_natCast, ← pow_mul', beq_self_eq_true]
          exact Ev.now _
        simp -implicitDefEqProofs only [if_true, show ¬ (x : Int) < 0 by omega, show ¬ (y : Int) < 0 by omega, show ¬ (x : Int) > 4294967295 by omega, if_false, decide_eq_false (show ¬ (y : Int) > 4294967295 by omega)]
        exact last
    · refine Ev.bind (twid_Twiddle_kind h hd) ?_
      refine Ev.bind (abacistlaw08_wrong_kind h hd) ?_
      simp -implicitDefEqProofs only [show ¬ (18 : Int) = 0 by omega, if_false, if_true, beq_self_eq_true]
      exact Ev.now _
end Go.Proofs.YtlifdpaamcdmfaaDoor.Pure
