/- TwidSlow: for any row of 64-bit words and any number for a direction the law's call answers true: of a row of 2^k words, 2^k at most 32, the transform by its sums is the reference's, the other direction's of it is the row (canonical), and the row times 7 is the reference's; what is refused is refused by name. Conditions: the row reads as one; math/bits' listed table reads as the row says. -/
import Derived.Test.YtlifdpaamcdmfaaDoorBTwidSlow
namespace Go.Proofs.YtlifdpaamcdmfaaDoor.Pure
set_option linter.unusedVariables false
set_option linter.unusedSimpArgs false
open Go Go.RowKit Go.Proofs.YtlifdpaamcdmfaaDoor.M Go.Proofs.YtlifdpaamcdmfaaDoor.BTwidSlow Go.Proofs.YtlifdpaamcdmfaaDoor.PTwidSlow Go.Proofs.YtlifdpaamcdmfaaDoorW.PrintWords Go.Proofs.YtlifdpaamcdmfaaDoorW.PrintLast Go.Proofs.YtlifdpaamcdmfaaDoorW.PrintMore
theorem TwidSlow_j0_kind {l : List Int} {d k : Int} {l2 : List Int} (h : l2 = []) : Ev (fun n => abacistlaw08_TwidSlow.j0 n l d k l2 18 true) true := by
  subst h
  refine Ev.step (fun n => abacistlaw08_TwidSlow.j0.eq_2 ..) ?_
  simp -implicitDefEqProofs only [if_true, List.length_nil]
  exact Ev.now _
theorem TwidSlow_j0 {l : List Int} (hu : UL l) {k : Nat} {d : Int} (hk : k ≤ 5) (hd : d = 0 ∨ d = 1) (hl : l.length = 2 ^ k) : Ev (fun n => abacistlaw08_TwidSlow.j0 n l d (k : Int) (tab (2 ^ k) (tf k d (co l))) 0 false) true := by
  have hp := two_pow_lt (n := k) (m := 5) hk
  refine Ev.step (fun n => abacistlaw08_TwidSlow.j0.eq_2 ..) ?_
  have e : wrap64 (1 - d) = 1 - d := by unfold wrap64; omega
  have hd2 : 1 - d = 0 ∨ 1 - d = 1 := by omega
  simp -implicitDefEqProofs only [show ¬ (false = true) by decide, if_false, e]
  refine Ev.bind (twid_Slow_ev (UL_tab _ _) (k := k) (by omega) hd2 (tab_length _ _)) ?_
  simp -implicitDefEqProofs only [if_true]
  refine Ev.bind (abacistref08_Transform_ev hu (by omega) hd hl) ?_
  refine Ev.bind (abacistref04_Same_refl _ (by rw [tab_length]; omega)) ?_
  simp -implicitDefEqProofs only [if_true]
  refine Ev.bind (abacistref08_Canon_ev hu (by omega)) ?_
  have e2 : tab (2 ^ k) (tf k (1 - d) (co (tab (2 ^ k) (tf k d (co l))))) = tab l.length (co l) := by
    rw [hl]
    refine tab_congr (fun i hi => ?_)
    rw [tf_congr (g := tf k d (co l)) (fun j hj => co_tab_lt hj), tf_tf (by omega) hd _ hi]
  rw [e2]
  refine Ev.bind (abacistref04_Same_refl _ (by rw [tab_length]; omega)) ?_
  simp -implicitDefEqProofs only [if_true]
  have u7 : U 7 := ⟨by omega, by omega⟩
  refine Ev.bind (twid_Scale_ev hu (by omega) u7) ?_
  refine Ev.bind (abacistref08_Scale_ev hu (by omega) u7) ?_
  refine Ev.bind (abacistref04_Same_refl _ (by rw [tab_length]; omega)) ?_
  exact Ev.now _
theorem TwidSlow : abacistlaw08_TwidSlow.Pure := by
  intro l d hl _ hl2 hd0
  have hu := UL_of_wf hl2
  refine Ev.rounds (g := fun n => abacistlaw08_TwidSlow.f n l d) ?_
  unfold abacistlaw08_TwidSlow.f
  refine Ev.bind abacistlaw08_awake_ev ?_
  simp -implicitDefEqProofs only [if_true]
  by_cases c : (l.length : Int) > 32
  · simp -implicitDefEqProofs only [c, if_true]
    exact Ev.now _
  · simp -implicitDefEqProofs only [c, if_false]
    rcases fits_cases (l.length : Int) with ⟨k, hk, ek⟩ | h0
    · have el : l.length = 2 ^ k := by omega
      have hk5 : k ≤ 5 := by
        have : ¬ 6 ≤ k := fun hh => by have := two_pow_lt hh; omega
        omega
      have hf := abacistref03_Fits_yes hk
      rw [← ek] at hf
      refine Ev.bind hf ?_
      by_cases hd : d = 0 ∨ d = 1
      · refine Ev.bind (twid_Slow_ev hu (by omega) hd el) ?_
        simp -implicitDefEqProofs only [show ¬ (k : Int) < 0 by omega, if_false]
        have last := TwidSlow_j0 hu hk5 hd el
        rcases hd with rfl | rfl
        · simp -implicitDefEqProofs only [if_true]
          exact last
        · simp -implicitDefEqProofs only [show ¬ (1 : Int) = 0 by omega, if_false, bne_self_eq_false]
          exact last
      · refine Ev.bind (twid_Slow_kind hk el hd) ?_
        have e1 : (d != 1) = true := bne_iff_ne.2 (fun e => hd (.inr e))
        simp -implicitDefEqProofs only [show ¬ (k : Int) < 0 by omega, if_false, show ¬ d = 0 from fun e => hd (.inl e), e1]
        exact TwidSlow_j0_kind rfl
    · refine Ev.bind (abacistref03_Fits_no h0) ?_
      refine Ev.bind (twid_Slow_no h0) ?_
      simp -implicitDefEqProofs only [show (-1 : Int) < 0 by omega, if_true, List.length_nil]
      exact Ev.now _
end Go.Proofs.YtlifdpaamcdmfaaDoor.Pure
