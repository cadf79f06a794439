/- ChirpValues: for any row of 64-bit words, any word and any number the law's call answers true: of a row of at most 40 words and at most 40 values chirp.Values gives the polynomial's values at the word's powers; a word that is 0 in the field, or a number that may not be, is refused by name. Conditions: the row reads as a row; math/bits' table is as it was laid. -/
import Derived.Test.YtnmjomcpkckihaaDoorBChirpValues
namespace Go.Proofs.YtnmjomcpkckihaaDoor.Pure
set_option linter.unusedVariables false
set_option linter.unusedSimpArgs false
open Go Go.RowKit Go.Proofs.YtnmjomcpkckihaaDoor.M Go.Proofs.YtnmjomcpkckihaaDoor.BChirpValues Go.Proofs.YtnmjomcpkckihaaDoor.PChirpValues Go.Proofs.YtnmjomcpkckihaaDoorW.PrintWords Go.Proofs.YtnmjomcpkckihaaDoorW.PrintLast Go.Proofs.YtnmjomcpkckihaaDoorW.PrintMore
theorem Same_refl (l : List Int) (h : l.length ≤ 100000) : Ev (fun n => abacistref04_Same.f n l l) true := by
  have := abacistref04_Same_ev l l (by omega)
  rw [decide_eq_true rfl] at this
  exact this
theorem values_j0 {p : List Int} (hp : UL p) {w n : Int} (hw : U w) (hl : p.length ≤ 40) (hn : n ≤ 40 ∨ n > 65536) : Ev (fun k => abacistlaw29_ChirpValues.j0 k p w n false) true := by
  refine Ev.step (fun k => abacistlaw29_ChirpValues.j0.eq_2 ..) ?_
  simp -implicitDefEqProofs only [Bool.false_eq_true, if_false]
  by_cases h0 : cv w = 0
  · refine Ev.bind (chirp_Values_zero hw h0) ?_
    simp -implicitDefEqProofs only [abacistref02_Of_eq hw.1, Option.bind_some, h0, un_zero, if_true]
    exact Ev.now _
  have u0 : ¬ un (cv w) = 0 := fun h => h0 (un_eq_zero.1 h)
  have bad : n < 0 ∨ n > 65536 → Ev (fun k => abacistlaw29_ChirpValues.j1 k p w n [] 1 true) true := fun _ => by
    refine Ev.step (fun k => abacistlaw29_ChirpValues.j1.eq_2 ..) ?_
    simp -implicitDefEqProofs only [if_true]
    exact Ev.now _
  by_cases c1 : n < 0
  · refine Ev.bind (chirp_Values_arg hw h0 (.inl c1)) ?_
    simp -implicitDefEqProofs only [abacistref02_Of_eq hw.1, Option.bind_some, u0, if_false, c1, if_true]
    exact bad (.inl c1)
  by_cases c2 : n > 65536
  · refine Ev.bind (chirp_Values_arg hw h0 (.inr c2)) ?_
    simp -implicitDefEqProofs only [abacistref02_Of_eq hw.1, Option.bind_some, u0, if_false, c1, decide_eq_true c2]
    exact bad (.inr c2)
  obtain ⟨m, rfl⟩ := Int.eq_ofNat_of_zero_le (show 0 ≤ n by omega)
  refine Ev.bind (chirp_Values_ev hp hw h0 (by omega) (n := m) (by omega)) ?_
  simp -implicitDefEqProofs only [abacistref02_Of_eq hw.1, Option.bind_some, u0, if_false, c1, decide_eq_false c2]
  refine Ev.step (fun k => abacistlaw29_ChirpValues.j1.eq_2 ..) ?_
  simp -implicitDefEqProofs only [Bool.false_eq_true, if_false, if_true]
  refine Ev.bind (abacistref29_Values_ev hp hw (by omega) (n := m) (by omega)) ?_
  refine Ev.bind (Same_refl _ (by rw [tab_length]; omega)) ?_
  exact Ev.now _
theorem ChirpValues : abacistlaw29_ChirpValues.Pure := by
  intro p w n _ _ hp hw _
  have hp := UL_of_wf hp
  have hw := U_of_wf hw
  refine Ev.rounds ?_
  unfold abacistlaw29_ChirpValues.f
  refine Ev.bind abacistlaw29_awake_ev ?_
  simp -implicitDefEqProofs only [if_true]
  have arg : Ev (fun k => abacistlaw29_ChirpValues.j0 k p w n true) true := by
    refine Ev.step (fun k => abacistlaw29_ChirpValues.j0.eq_2 ..) ?_
    simp -implicitDefEqProofs only [if_true]
    exact Ev.now _
  by_cases c1 : (p.length : Int) > 40
  · simp -implicitDefEqProofs only [c1, if_true]
    exact arg
  by_cases c2 : n > 40
  · by_cases c3 : n ≤ 65536
    · simp -implicitDefEqProofs only [c1, if_false, c2, if_true, decide_eq_true c3]
      exact arg
    · simp -implicitDefEqProofs only [c1, if_false, c2, if_true, decide_eq_false c3]
      exact values_j0 hp hw (by omega) (.inr (by omega))
  · simp -implicitDefEqProofs only [c1, if_false, c2]
    exact values_j0 hp hw (by omega) (.inl (by omega))
end Go.Proofs.YtnmjomcpkckihaaDoor.Pure
