/- ConvTells: for any two rows of 64-bit words (of at most 64 each) the law's call answers true: of two rows of one length, a power of two, the cyclic convolution, the negacyclic one and the correlation are the document's sums of products; of rows of unlike lengths, or of another length, all three are refused by name, with no row. Conditions: both rows read as rows. -/
import Derived.Test.YtjooodbjbidjiaaDoorBConvTells
namespace Go.Proofs.YtjooodbjbidjiaaDoor.Pure
set_option linter.unusedVariables false
set_option linter.unusedSimpArgs false
open Go Go.RowKit Go.Proofs.YtjooodbjbidjiaaDoor.M Go.Proofs.YtjooodbjbidjiaaDoor.BConvTells Go.Proofs.YtjooodbjbidjiaaDoor.PConvTells Go.Proofs.YtjooodbjbidjiaaDoorW.PrintWords Go.Proofs.YtjooodbjbidjiaaDoorW.PrintLast Go.Proofs.YtjooodbjbidjiaaDoorW.PrintMore
theorem Same_refl (l : List Int) (h : l.length ≤ 1000) : Ev (fun n => abacistref04_Same.f n l l) true := by
  have := abacistref04_Same_ev l l (by omega)
  rw [decide_eq_true rfl] at this
  exact this
theorem tells_j0_true (a b : List Int) : Ev (fun k => abacistlaw13_ConvTells.j0 k a b true) true := by
  refine Ev.step (fun k => abacistlaw13_ConvTells.j0.eq_2 ..) ?_
  exact Ev.now _
theorem tells_err {a b : List Int} {e : Int} (he : e ≠ 0) (hc : conv_check.f a b = some (0, e)) (hj : ∀ x5 x6 x7 x8 x9 x10 : _, Ev (fun k => abacistlaw13_ConvTells.j1 k a b x5 x6 x7 x8 x9 x10 e) true → Ev (fun k => if (a.length : Int) = (b.length : Int) then ((abacistref03_Fits.f k (a.length : Int)).bind fun t300 => (if t300 < 0 then (abacistlaw13_ConvTells.j1 k a b x5 x6 x7 x8 x9 x10 4) else (abacistlaw13_ConvTells.j1 k a b x5 x6 x7 x8 x9 x10 0))) else (abacistlaw13_ConvTells.j1 k a b x5 x6 x7 x8 x9 x10 19)) true) :
    Ev (fun k => abacistlaw13_ConvTells.j0 k a b false) true := by
  refine Ev.step (fun k => abacistlaw13_ConvTells.j0.eq_2 ..) ?_
  simp -implicitDefEqProofs only [Bool.false_eq_true, if_false]
  refine Ev.bind (conv_Cyclic_err he hc) ?_
  refine Ev.bind (conv_Negacyclic_err he hc) ?_
  refine Ev.bind (conv_Correlate_err he hc) ?_
  refine hj [] e [] e [] e ?_
  refine Ev.step (fun k => abacistlaw13_ConvTells.j1.eq_2 ..) ?_
  simp -implicitDefEqProofs only [he, if_false, if_true, List.length_nil, Int.natCast_zero]
  exact Ev.now _
theorem tells_good {a b : List Int} (ha : UL a) (hb : UL b) {k : Nat} (hk : k ≤ 6) (hl : a.length = 2 ^ k) (hl2 : b.length = 2 ^ k) : Ev (fun k => abacistlaw13_ConvTells.j0 k a b false) true := by
  have hp := two_pow_lt (n := k) (m := 6) hk
  refine Ev.step (fun k => abacistlaw13_ConvTells.j0.eq_2 ..) ?_
  simp -implicitDefEqProofs only [Bool.false_eq_true, if_false]
  refine Ev.bind (conv_Cyclic_ev ha hb (by omega) hl hl2) ?_
  refine Ev.bind (conv_Negacyclic_ev ha hb (by omega) hl hl2) ?_
  refine Ev.bind (conv_Correlate_ev ha hb (by omega) hl hl2) ?_
  have e0 : (a.length : Int) = ((2 ^ k : Nat) : Int) := by rw [hl]
  have e1 : (b.length : Int) = ((2 ^ k : Nat) : Int) := by rw [hl2]
  simp -implicitDefEqProofs only [e0, e1, if_true]
  refine Ev.bind (abacistref03_Fits_yes (m := k) (by omega)) ?_
  simp -implicitDefEqProofs only [show ¬ ((k : Int) < 0) by omega, if_false]
  refine Ev.step (fun k => abacistlaw13_ConvTells.j1.eq_2 ..) ?_
  simp -implicitDefEqProofs only [if_true]
  refine Ev.bind (abacistref13_Cyclic_ev ha hb hl hl2 (by omega) false) ?_
  rw [show sg false = 1 from if_neg (by decide)]
  refine Ev.bind (Same_refl _ (by rw [tab_length]; omega)) ?_
  simp -implicitDefEqProofs only [if_true]
  refine Ev.bind (abacistref13_Cyclic_ev ha hb hl hl2 (by omega) true) ?_
  rw [show sg true = -1 from if_pos rfl]
  refine Ev.bind (Same_refl _ (by rw [tab_length]; omega)) ?_
  simp -implicitDefEqProofs only [if_true]
  refine Ev.bind (abacistref13_Correlate_ev ha hb hl hl2 (by omega)) ?_
  refine Ev.bind (Same_refl _ (by rw [tab_length]; omega)) ?_
  exact Ev.now _
theorem ConvTells : abacistlaw13_ConvTells.Pure := by
  intro a b _ _ ha _ _ hb
  have ha := UL_of_wf ha
  have hb := UL_of_wf hb
  refine Ev.rounds ?_
  unfold abacistlaw13_ConvTells.f
  refine Ev.bind abacistlaw13_awake_ev ?_
  simp -implicitDefEqProofs only [if_true]
  by_cases c1 : (a.length : Int) > 64
  · simp -implicitDefEqProofs only [c1, if_true]
    exact tells_j0_true a b
  simp -implicitDefEqProofs only [c1, if_false]
  by_cases c2 : (b.length : Int) > 64
  · rw [decide_eq_true c2]
    exact tells_j0_true a b
  rw [decide_eq_false c2]
  by_cases hl : a.length = b.length
  · rcases fits_cases (a.length : Int) with ⟨j, hj, e⟩ | hn
    · have e2 : a.length = 2 ^ j := by omega
      have hj6 : j ≤ 6 := by
        rcases Nat.lt_or_ge 6 j with h | h
        · have := two_pow_lt (n := 7) (m := j) (by omega)
          omega
        · exact h
      exact tells_good ha hb hj6 e2 (by omega)
    · refine tells_err (by decide) (conv_check_no hl hn) (fun x5 x6 x7 x8 x9 x10 h => ?_)
      have e0 : (a.length : Int) = (b.length : Int) := by rw [hl]
      simp -implicitDefEqProofs only [e0, if_true]
      rw [e0] at hn
      refine Ev.bind (abacistref03_Fits_no hn) ?_
      simp -implicitDefEqProofs only [show (-1 : Int) < 0 by decide, if_true]
      exact h
  · refine tells_err (by decide) (conv_check_odd hl) (fun x5 x6 x7 x8 x9 x10 h => ?_)
    simp -implicitDefEqProofs only [show ¬ (a.length : Int) = (b.length : Int) by omega, if_false]
    exact h
end Go.Proofs.YtjooodbjbidjiaaDoor.Pure
