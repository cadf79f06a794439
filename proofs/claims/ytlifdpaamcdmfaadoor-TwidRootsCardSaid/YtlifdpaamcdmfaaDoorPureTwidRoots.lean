/- TwidRoots: for any numbers k and d the law's call answers true: the root of k and direction d, the inverse of 2^k and (of k at most 6) the first half of the root's powers are the reference's; what is no exponent or no direction is refused by name. Conditions: math/bits' listed table reads as the row says; none beyond the kinds of the arguments. -/
import Derived.Test.YtlifdpaamcdmfaaDoorBTwidRoots
namespace Go.Proofs.YtlifdpaamcdmfaaDoor.Pure
set_option linter.unusedVariables false
set_option linter.unusedSimpArgs false
open Go Go.RowKit Go.Proofs.YtlifdpaamcdmfaaDoor.M Go.Proofs.YtlifdpaamcdmfaaDoor.BTwidRoots Go.Proofs.YtlifdpaamcdmfaaDoor.PTwidRoots Go.Proofs.YtlifdpaamcdmfaaDoorW.PrintWords Go.Proofs.YtlifdpaamcdmfaaDoorW.PrintLast Go.Proofs.YtlifdpaamcdmfaaDoorW.PrintMore
theorem TwidRoots_end {k : Nat} {d : Int} (hk : k ≤ 6) (n i : Int) (hn : n = (hf k : Nat)) (hi : ¬ i < (k : Int)) : Ev (fun m => abacistlaw08_TwidRoots.l0 m (k : Int) (un (dr k d)) (tab (hf k) (fun i => dr k d ^ i)) 0 n i) true := by
  have hp := two_pow_lt (n := k) (m := 6) hk
  have h1 : hf k ≤ 64 := by unfold hf; omega
  subst hn
  refine Ev.step (fun m => abacistlaw08_TwidRoots.l0.eq_2 ..) ?_
  simp -implicitDefEqProofs only [hi, if_false, if_true]
  refine Ev.bind (abacistref03_Powers_ev (un_lo _) (by omega)) ?_
  rw [cv_un]
  refine Ev.bind (abacistref04_Same_refl _ (by rw [tab_length]; omega)) ?_
  exact Ev.now _
theorem TwidRoots_l0 {k : Nat} {d : Int} (hk : k ≤ 6) : Ev (fun m => abacistlaw08_TwidRoots.l0 m (k : Int) (un (dr k d)) (tab (hf k) (fun i => dr k d ^ i)) 0 1 1) true := by
  match k, hk with
  | 0, hk => exact TwidRoots_end hk 1 1 (by unfold hf; rfl) (by omega)
  | k + 1, hk =>
    refine Ev_loop k (fun m j => abacistlaw08_TwidRoots.l0 m ((k + 1 : Nat) : Int) (un (dr (k + 1) d)) (tab (hf (k + 1)) (fun i => dr (k + 1) d ^ i)) 0 ((2 ^ j : Nat) : Int) ((j + 1 : Nat) : Int)) ?_ (fun j hj ih => ?_) 0 (Nat.zero_le _)
    · refine TwidRoots_end hk _ _ ?_ (by omega)
      have := Nat.two_pow_pos k
      unfold hf; rw [Nat.pow_succ]; omega
    · have hp := two_pow_lt (n := j) (m := 6) (by omega)
      have e : wrap64 (2 * ((2 ^ j : Nat) : Int)) = ((2 ^ (j + 1) : Nat) : Int) := by
        rw [Nat.pow_succ]; generalize 2 ^ j = q at *; unfold wrap64; omega
      refine Ev.step (fun m => abacistlaw08_TwidRoots.l0.eq_2 ..) ?_
      simp -implicitDefEqProofs only [show ((j + 1 : Nat) : Int) < ((k + 1 : Nat) : Int) by omega, if_true, e, nat64_succ (show j + 1 < 9223372036854775807 by omega)]
      exact ih
theorem TwidRoots_ok {k : Nat} {d : Int} (hk : k ≤ 32) (hd : d = 0 ∨ d = 1) : Ev (fun m => abacistlaw08_TwidRoots.j0 m (k : Int) d (un (dr k d)) 0 false) true := by
  refine Ev.step (fun m => abacistlaw08_TwidRoots.j0.eq_2 ..) ?_
  simp -implicitDefEqProofs only [show ¬ (false = true) by decide, if_false, if_true]
  refine Ev.bind (abacistref08_Root_ev hk hd) ?_
  simp -implicitDefEqProofs only [if_true]
  by_cases c : k ≤ 6
  · simp -implicitDefEqProofs only [show ¬ (k : Int) > 6 by omega, if_false]
    refine Ev.step (fun m => abacistlaw08_TwidRoots.j1.eq_2 ..) ?_
    refine Ev.bind (twid_Table_ev (by omega) hd) ?_
    simp -implicitDefEqProofs only [show ¬ (k : Int) > 20 by omega, if_false]
    exact TwidRoots_l0 c
  · simp -implicitDefEqProofs only [show (k : Int) > 6 by omega, if_true]
    by_cases c2 : k ≤ 20
    · rw [decide_eq_true (show (k : Int) ≤ 20 by omega)]
      refine Ev.step (fun m => abacistlaw08_TwidRoots.j1.eq_2 ..) ?_
      exact Ev.now _
    · rw [decide_eq_false (show ¬ (k : Int) ≤ 20 by omega)]
      refine Ev.step (fun m => abacistlaw08_TwidRoots.j1.eq_2 ..) ?_
      refine Ev.bind (twid_Table_large (by omega) hk hd) ?_
      simp -implicitDefEqProofs only [show (k : Int) > 20 by omega, if_true, List.length_nil]
      exact Ev.now _
theorem TwidRoots_arg {k d : Int} (h : k < 0 ∨ 32 < k) : Ev (fun m => abacistlaw08_TwidRoots.j0 m k d 0 1 false) true := by
  refine Ev.step (fun m => abacistlaw08_TwidRoots.j0.eq_2 ..) ?_
  simp -implicitDefEqProofs only [show ¬ (false = true) by decide, if_false, show ¬ (1 : Int) = 0 by omega]
  refine Ev.bind (twid_Table_arg h) ?_
  simp -implicitDefEqProofs only [if_true, List.length_nil]
  exact Ev.now _
theorem TwidRoots_kind {k d : Int} (h : ¬ (k < 0 ∨ 32 < k)) (hd : ¬ (d = 0 ∨ d = 1)) : Ev (fun m => abacistlaw08_TwidRoots.j0 m k d 0 18 false) true := by
  refine Ev.step (fun m => abacistlaw08_TwidRoots.j0.eq_2 ..) ?_
  simp -implicitDefEqProofs only [show ¬ (false = true) by decide, if_false, show ¬ (18 : Int) = 0 by omega]
  refine Ev.bind (twid_Table_kind h hd) ?_
  simp -implicitDefEqProofs only [if_true, List.length_nil]
  exact Ev.now _
theorem TwidRoots : abacistlaw08_TwidRoots.Pure := by
  intro k d hk hd0
  refine Ev.rounds (g := fun n => abacistlaw08_TwidRoots.f n k d) ?_
  unfold abacistlaw08_TwidRoots.f
  refine Ev.bind abacistlaw08_awake_ev ?_
  simp -implicitDefEqProofs only [if_true]
  by_cases h : k < 0 ∨ 32 < k
  · refine Ev.bind (twid_Root_arg h) ?_
    refine Ev.bind (twid_Share_no h) ?_
    refine Ev.bind (abacistlaw08_wrong_arg h) ?_
    have last := TwidRoots_arg (d := d) h
    have e0 : ((1 : Int) == 0) = false := rfl
    by_cases c : k ≥ 0
    · simp -implicitDefEqProofs only [if_true, c, e0, decide_eq_false (show ¬ k ≤ 32 by omega), bne_self_eq_false, show ¬ (false = true) by decide, if_false, show ¬ (1 : Int) = 0 by omega]
      exact last
    · simp -implicitDefEqProofs only [if_true, c, e0, bne_self_eq_false, show ¬ (false = true) by decide, if_false, show ¬ (1 : Int) = 0 by omega]
      exact last
  · obtain ⟨q, rfl⟩ := Int.eq_ofNat_of_zero_le (show 0 ≤ k by omega)
    have hq : q ≤ 32 := by omega
    have e0 : ((0 : Int) == 0) = true := rfl
    by_cases hd : d = 0 ∨ d = 1
    · refine Ev.bind (twid_Root_ev hq hd) ?_
      refine Ev.bind (twid_Share_ev hq) ?_
      refine Ev.bind (abacistlaw08_wrong_ok h hd) ?_
      simp -implicitDefEqProofs only [if_true, show (q : Int) ≥ 0 by omega, e0, decide_eq_true (show (q : Int) ≤ 32 by omega), bne_self_eq_false, show ¬ (false = true) by decide, if_false]
      refine Ev.bind (abacistref08_Share_ev hq) ?_
      rw [bne_self_eq_false]
      exact TwidRoots_ok hq hd
    · refine Ev.bind (twid_Root_kind h hd) ?_
      refine Ev.bind (twid_Share_ev hq) ?_
      refine Ev.bind (abacistlaw08_wrong_kind h hd) ?_
      simp -implicitDefEqProofs only [if_true, show (q : Int) ≥ 0 by omega, e0, decide_eq_true (show (q : Int) ≤ 32 by omega), bne_self_eq_false, show ¬ (false = true) by decide, if_false]
      refine Ev.bind (abacistref08_Share_ev hq) ?_
      rw [bne_self_eq_false]
      exact TwidRoots_kind h hd
end Go.Proofs.YtlifdpaamcdmfaaDoor.Pure
