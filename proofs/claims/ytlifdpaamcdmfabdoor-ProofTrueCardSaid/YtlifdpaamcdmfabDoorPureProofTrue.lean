/- ProofTrue: for any row x, any number for a direction and any words l the law's call answers true: of a row of 2^k words, 2^k at most 32, and its transform, all sums go together: the values at the words of l (at most 8), the first words and sums, the sums of squares. Conditions: the rows read as such; math/bits' listed table reads as the row says. -/
import Derived.Test.YtlifdpaamcdmfabDoorBProofTrue
namespace Go.Proofs.YtlifdpaamcdmfabDoor.Pure
set_option linter.unusedVariables false
set_option linter.unusedSimpArgs false
open Go Go.RowKit Go.Proofs.YtlifdpaamcdmfabDoor.M Go.Proofs.YtlifdpaamcdmfabDoor.BProofTrue Go.Proofs.YtlifdpaamcdmfabDoor.PProofTrue Go.Proofs.YtlifdpaamcdmfabDoorW.PrintWords Go.Proofs.YtlifdpaamcdmfabDoorW.PrintLast Go.Proofs.YtlifdpaamcdmfabDoorW.PrintMore
theorem ProofTrue_skip {x l : List Int} {d k : Int} : Ev (fun n => abacistlaw28_ProofTrue.j0 n x d l k true) true := by
  refine Ev.step (fun n => abacistlaw28_ProofTrue.j0.eq_2 ..) ?_
  exact Ev.now _
theorem ProofTrue_j0 {x l : List Int} (hx : UL x) (hz : UL l) (hll : l.length < 9223372036854775807) {k : Nat} (hk : k ≤ 5) {d : Int} (hd : d = 0 ∨ d = 1) (hl : x.length = 2 ^ k) : Ev (fun n => abacistlaw28_ProofTrue.j0 n x d l (k : Int) false) true := by
  have hp := two_pow_lt (n := k) (m := 5) hk
  have hp0 := Nat.two_pow_pos k
  have step : Ev (fun n => (abacistref08_Transform.f n x (k : Int) d).bind fun t316 => ((proof_All.f n x t316 d l).bind fun bt319 => ((proof_Ends.f n x t316 d).bind fun bt321 => ((abacistref08_Transform.f n x (k : Int) 0).bind fun t323 => ((proof_Power.f n x t323).bind fun bt326 => (if bt319.1 = true then (if bt321.1 = true then (if bt326.1 = true then (if bt319.2 = 0 then (if bt321.2 = 0 then (some (bt326.2 == 0)) else (some false)) else (some false)) else (some false)) else (some false)) else (some false))))))) true := by
    have hfit : ∀ z, fitsB k d (co x) (co (tab (2 ^ k) (tf k d (co x)))) z = true := by
      intro z
      unfold fitsB
      rw [ev_congr (cv z) (g := co x) (fun i hi => by rw [tf_congr (g := tf k d (co x)) (fun j hj => co_tab_lt hj), tf_tf (by omega) hd _ hi])]
      exact beq_self_eq_true _
    have hend : endsB k d (co x) (co (tab (2 ^ k) (tf k d (co x)))) = true := by
      have h1 := tf_zero k d (co x)
      have h2 := tf_tf (show k ≤ 32 by omega) hd (co x) hp0
      rw [tf_zero] at h2
      have h3 : Sm (2 ^ k) (co (tab (2 ^ k) (tf k d (co x)))) = Sm (2 ^ k) (tf k d (co x)) := Sm_congr (fun i hi => co_tab_lt hi)
      unfold endsB endX endY
      rw [co_tab_lt hp0, h1, h3]
      rcases hd with rfl | rfl
      · rw [if_pos (by omega)] at h2
        rw [if_neg (by omega), if_neg (by omega), h2, beq_self_eq_true, beq_self_eq_true]; rfl
      · rw [if_neg (by omega)] at h2
        rw [if_pos rfl, if_pos rfl, h2, beq_self_eq_true, beq_self_eq_true]; rfl
    have hpow : powB k (co x) (co (tab (2 ^ k) (tf k 0 (co x)))) = true := by
      unfold powB
      rw [← squares (show k ≤ 32 by omega) (co x)]
      have e : Sm (2 ^ k) (fun i => co (tab (2 ^ k) (tf k 0 (co x))) i * co (tab (2 ^ k) (tf k 0 (co x))) i) = Sm (2 ^ k) (fun j => dft (2 ^ k) (dr k 0) (co x) j * dft (2 ^ k) (dr k 0) (co x) j) :=
        Sm_congr (fun i hi => by rw [co_tab_lt hi]; unfold tf; rw [if_neg (by omega)])
      rw [e]; exact beq_self_eq_true _
    refine Ev.bind (abacistref08_Transform_ev hx (by omega) hd hl) ?_
    refine Ev.bind (proof_All_true hx (UL_tab _ _) hz hll (k := k) (by omega) hd hl (tab_length _ _) hfit) ?_
    refine Ev.bind (proof_Ends_ev hx (UL_tab _ _) (k := k) (by omega) hd hl (tab_length _ _)) ?_
    refine Ev.bind (abacistref08_Transform_ev hx (by omega) (.inl rfl) hl) ?_
    refine Ev.bind (proof_Power_ev hx (UL_tab _ _) (k := k) (by omega) hl (tab_length _ _)) ?_
    rw [hend, hpow]
    exact Ev.now _
  refine Ev.step (fun n => abacistlaw28_ProofTrue.j0.eq_2 ..) ?_
  exact step
theorem ProofTrue : abacistlaw28_ProofTrue.Pure := by
  intro x d l hl _ hl2 hd0 hll _ hz
  have hx := UL_of_wf hl2
  have hzu := UL_of_wf hz
  have hm : l.length < 9223372036854775807 := by unfold maxLen at hll; omega
  refine Ev.rounds (g := fun n => abacistlaw28_ProofTrue.f n x d l) ?_
  unfold abacistlaw28_ProofTrue.f
  refine Ev.bind abacistlaw28_awake_ev ?_
  simp -implicitDefEqProofs only [if_true]
  rcases fits_cases (x.length : Int) with ⟨k, hk, ek⟩ | h0
  · have el : x.length = 2 ^ k := by omega
    have hf := abacistref03_Fits_yes hk
    rw [← ek] at hf
    refine Ev.bind hf ?_
    by_cases c : (x.length : Int) > 32
    · simp -implicitDefEqProofs only [c, if_true]
      exact ProofTrue_skip
    · have hk5 : k ≤ 5 := by
        have : ¬ 6 ≤ k := fun hh => by have := two_pow_lt hh; omega
        omega
      simp -implicitDefEqProofs only [c, if_false, show ¬ (k : Int) < 0 by omega]
      by_cases hd : d = 0 ∨ d = 1
      · have last := ProofTrue_j0 hx hzu hm hk5 hd el
        by_cases c8 : (l.length : Int) > 8
        · rw [decide_eq_true c8]
          rcases hd with rfl | rfl
          · exact ProofTrue_skip
          · exact ProofTrue_skip
        · rw [decide_eq_false c8]
          rcases hd with rfl | rfl
          · exact last
          · exact last
      · simp -implicitDefEqProofs only [show ¬ d = 0 from fun e => hd (.inl e), show ¬ d = 1 from fun e => hd (.inr e), if_false]
        exact ProofTrue_skip
  · refine Ev.bind (abacistref03_Fits_no h0) ?_
    by_cases c : (x.length : Int) > 32
    · simp -implicitDefEqProofs only [c, if_true]
      exact ProofTrue_skip
    · simp -implicitDefEqProofs only [c, if_false, show (-1 : Int) < 0 by omega, if_true]
      exact ProofTrue_skip
end Go.Proofs.YtlifdpaamcdmfabDoor.Pure
