/- ProofValues: for any row of 64-bit words, any number for a direction and any word the law's call answers true: of 2^k words, 2^k at most 32, the value that the row tells at the word is that of the other direction's transform of the row there (the reference's, word by word); what is refused is refused by name. Conditions: the row reads as one; math/bits' listed table reads as the row says. -/
import Derived.Test.YtlifdpaamcdmfaaDoorBProofValues
namespace Go.Proofs.YtlifdpaamcdmfaaDoor.Pure
set_option linter.unusedVariables false
set_option linter.unusedSimpArgs false
open Go Go.RowKit Go.Proofs.YtlifdpaamcdmfaaDoor.M Go.Proofs.YtlifdpaamcdmfaaDoor.BProofValues Go.Proofs.YtlifdpaamcdmfaaDoor.PProofValues Go.Proofs.YtlifdpaamcdmfaaDoorW.PrintWords Go.Proofs.YtlifdpaamcdmfaaDoorW.PrintLast Go.Proofs.YtlifdpaamcdmfaaDoorW.PrintMore
theorem ProofValues_j0_kind {l : List Int} {d z k : Int} : Ev (fun n => abacistlaw28_ProofValues.j0 n l d z k 0 18 true) true := by
  refine Ev.step (fun n => abacistlaw28_ProofValues.j0.eq_2 ..) ?_
  simp -implicitDefEqProofs only [if_true, beq_self_eq_true]
  exact Ev.now _
theorem ProofValues_j0 {l : List Int} (hu : UL l) {k : Nat} {d z : Int} (hk : k ≤ 5) (hd : d = 0 ∨ d = 1) (hl : l.length = 2 ^ k) (hz : U z) : Ev (fun n => abacistlaw28_ProofValues.j0 n l d z (k : Int) (un (ev (2 ^ k) (tf k (1 - d) (co l)) (cv z))) 0 false) true := by
  have hp := two_pow_lt (n := k) (m := 5) hk
  refine Ev.step (fun n => abacistlaw28_ProofValues.j0.eq_2 ..) ?_
  have e : wrap64 (1 - d) = 1 - d := by unfold wrap64; omega
  simp -implicitDefEqProofs only [show ¬ (false = true) by decide, if_false, if_true, e]
  refine Ev.bind (abacistref08_Transform_ev hu (by omega) (show 1 - d = 0 ∨ 1 - d = 1 by omega) hl) ?_
  refine Ev.bind (abacistref07_At_ev (UL_tab _ _) (by rw [tab_length]; omega) hz) ?_
  rw [tab_length, ev_congr (cv z) (g := tf k (1 - d) (co l)) (fun i hi => co_tab_lt hi), beq_self_eq_true]
  exact Ev.now _
theorem ProofValues : abacistlaw28_ProofValues.Pure := by
  intro l d z hl _ hl2 hd0 hz0
  have hu := UL_of_wf hl2
  have hz := U_of_wf hz0
  refine Ev.rounds (g := fun n => abacistlaw28_ProofValues.f n l d z) ?_
  unfold abacistlaw28_ProofValues.f
  refine Ev.bind abacistlaw28_awake_ev ?_
  simp -implicitDefEqProofs only [if_true]
  by_cases c : (l.length : Int) > 32
  · simp -implicitDefEqProofs only [c, if_true]
    exact Ev.now _
  · simp -implicitDefEqProofs only [c, if_false]
    rcases fits_cases (l.length : Int) with ⟨k, hk, ek⟩ | h0
    · have el : l.length = 2 ^ k := by omega
      have hk5 : k ≤ 5 := by
        have : ¬ 6 ≤ k := fun hh => by have := two_pow_lt hh; omega
        omega
      have hf := abacistref03_Fits_yes hk
      rw [← ek] at hf
      refine Ev.bind hf ?_
      by_cases hd : d = 0 ∨ d = 1
      · refine Ev.bind (proof_Value_ev hu (by omega) hd el hz) ?_
        simp -implicitDefEqProofs only [show ¬ (k : Int) < 0 by omega, if_false]
        have last := ProofValues_j0 hu hk5 hd el hz
        rcases hd with rfl | rfl
        · simp -implicitDefEqProofs only [if_true]
          exact last
        · simp -implicitDefEqProofs only [show ¬ (1 : Int) = 0 by omega, if_false, bne_self_eq_false]
          exact last
      · refine Ev.bind (proof_Value_kind (by omega) hd el) ?_
        have e1 : (d != 1) = true := bne_iff_ne.2 (fun e => hd (.inr e))
        simp -implicitDefEqProofs only [show ¬ (k : Int) < 0 by omega, if_false, show ¬ d = 0 from fun e => hd (.inl e), e1]
        exact ProofValues_j0_kind
    · refine Ev.bind (abacistref03_Fits_no h0) ?_
      refine Ev.bind (proof_Value_no h0) ?_
      simp -implicitDefEqProofs only [show (-1 : Int) < 0 by omega, if_true, beq_self_eq_true]
      exact Ev.now _
end Go.Proofs.YtlifdpaamcdmfaaDoor.Pure
