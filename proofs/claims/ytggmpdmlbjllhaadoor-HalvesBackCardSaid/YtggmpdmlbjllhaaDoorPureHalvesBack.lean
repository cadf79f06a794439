/- HalvesBack: for any row of 64-bit words and any number for a direction the law's call answers true: of 2^k words, at most 32, the transform by itself is the document's (the defining sum, divided if it goes back), the inverse one of it is the row, word by word in the field, and the row stays as it was; what is refused is refused by name. Conditions: the row reads as one; math/bits' listed table reads as the row says. -/
import Derived.Test.YtggmpdmlbjllhaaDoorBHalvesBack
namespace Go.Proofs.YtggmpdmlbjllhaaDoor.Pure
set_option linter.unusedVariables false
set_option linter.unusedSimpArgs false
open Go Go.RowKit Go.Proofs.YtggmpdmlbjllhaaDoor.M Go.Proofs.YtggmpdmlbjllhaaDoor.BHalvesBack Go.Proofs.YtggmpdmlbjllhaaDoor.PHalvesBack Go.Proofs.YtggmpdmlbjllhaaDoorW.PrintWords Go.Proofs.YtggmpdmlbjllhaaDoorW.PrintLast Go.Proofs.YtggmpdmlbjllhaaDoorW.PrintMore
theorem HalvesBack_kind {l : List Int} {d k : Int} : Ev (fun n => abacistlaw09_HalvesBack.j0 n l d k [] 18 true) true := by
  refine Ev.step (fun n => abacistlaw09_HalvesBack.j0.eq_2 ..) ?_
  simp -implicitDefEqProofs only [if_true]
  exact Ev.now _
theorem HalvesBack_j0 {l : List Int} (hu : UL l) {k : Nat} {d : Int} (hk : k ≤ 5) (hd : d = 0 ∨ d = 1) (hl : l.length = 2 ^ k) : Ev (fun n => abacistlaw09_HalvesBack.j0 n l d (k : Int) (tab (2 ^ k) (tf k d (co l))) 0 false) true := by
  have hp := two_pow_lt (n := k) (m := 5) hk
  refine Ev.step (fun n => abacistlaw09_HalvesBack.j0.eq_2 ..) ?_
  have e : wrap64 (1 - d) = 1 - d := by unfold wrap64; omega
  rw [e]
  refine Ev.bind (kern2_Transform_ev (UL_tab _ _) (by omega) (show 1 - d = 0 ∨ 1 - d = 1 by omega) (tab_length _ _)) ?_
  simp -implicitDefEqProofs only [if_true]
  refine Ev.bind (abacistref08_Transform_ev hu (by omega) hd hl) ?_
  refine Ev.bind (abacistref04_Same_ev _ _ (by rw [tab_length]; omega)) ?_
  rw [decide_eq_true rfl]
  simp -implicitDefEqProofs only [if_true]
  refine Ev.bind (abacistref08_Canon_ev hu (by omega)) ?_
  refine Ev.bind (abacistref04_Same_ev _ _ (by rw [tab_length]; omega)) ?_
  have e2 : tab (2 ^ k) (tf k (1 - d) (co (tab (2 ^ k) (tf k d (co l))))) = tab l.length (co l) := by
    rw [hl]
    refine tab_congr (fun i hi => ?_)
    rw [tf_congr (g := tf k d (co l)) (fun j hj => co_tab_lt hj)]
    exact tf_tf (by omega) hd _ hi
  rw [decide_eq_true e2]
  exact Ev.now _
theorem HalvesBack : abacistlaw09_HalvesBack.Pure := by
  intro l d hl _ hl2 hd0
  have hu := UL_of_wf hl2
  refine Ev.rounds (g := fun n => abacistlaw09_HalvesBack.f n l d) ?_
  unfold abacistlaw09_HalvesBack.f
  refine Ev.bind abacistlaw09_awake_ev ?_
  simp -implicitDefEqProofs only [if_true]
  by_cases c : (l.length : Int) > 32
  · simp -implicitDefEqProofs only [c, if_true]
    exact Ev.now _
  · have c2 : ([] : List Int).length + l.length < 17592186044416 := by rw [List.length_nil]; omega
    simp -implicitDefEqProofs only [c, if_false, Option.bind_some, c2, if_true, List.nil_append]
    rcases fits_cases (l.length : Int) with ⟨k, hk, ek⟩ | h0
    · have el : l.length = 2 ^ k := by omega
      have hk5 : k ≤ 5 := by
        have : ¬ 6 ≤ k := fun hh => by have := two_pow_lt hh; omega
        omega
      have hf := abacistref03_Fits_yes hk
      rw [← ek] at hf
      refine Ev.bind hf ?_
      by_cases hd : d = 0 ∨ d = 1
      · refine Ev.bind (kern2_Transform_ev hu (by omega) hd el) ?_
        refine Ev.bind (abacistref04_Same_ev _ _ (by omega)) ?_
        rw [decide_eq_true rfl]
        simp -implicitDefEqProofs only [if_true, show ¬ (k : Int) < 0 by omega, if_false]
        have last := HalvesBack_j0 hu hk5 hd el
        rcases hd with rfl | rfl
        · simp -implicitDefEqProofs only [if_true]
          exact last
        · simp -implicitDefEqProofs only [show ¬ (1 : Int) = 0 by omega, if_false, bne_self_eq_false]
          exact last
      · refine Ev.bind (kern2_Transform_kind hk hd el) ?_
        refine Ev.bind (abacistref04_Same_ev _ _ (by omega)) ?_
        rw [decide_eq_true rfl]
        have e1 : (d != 1) = true := bne_iff_ne.2 (fun e => hd (.inr e))
        simp -implicitDefEqProofs only [if_true, show ¬ (k : Int) < 0 by omega, if_false, show ¬ d = 0 from fun e => hd (.inl e), e1]
        exact HalvesBack_kind
    · refine Ev.bind (abacistref03_Fits_no h0) ?_
      refine Ev.bind (kern2_Transform_no h0) ?_
      refine Ev.bind (abacistref04_Same_ev _ _ (by omega)) ?_
      rw [decide_eq_true rfl]
      simp -implicitDefEqProofs only [if_true, show (-1 : Int) < 0 by omega]
      exact Ev.now _
end Go.Proofs.YtggmpdmlbjllhaaDoor.Pure
