/- RootOrders: for any word a, any number k and any n of 32 bits the law's call answers true: the order of a is the reference's, its logarithm to the root of k is told where there is one, and the logarithm of a root's power is that power (n % 2^k). No condition beyond the kinds of the arguments. -/
import Derived.Test.YtalfhpghmoikoaaBRootOrders
namespace Go.Proofs.Ytalfhpghmoikoaa.Pure
set_option linter.unusedVariables false
set_option linter.unusedSimpArgs false
open Go Go.RowKit Go.Proofs.Ytalfhpghmoikoaa.M Go.Proofs.Ytalfhpghmoikoaa.BRootOrders Go.Proofs.Ytalfhpghmoikoaa.PRootOrders Go.Proofs.YtalfhpghmoikoaaW.PrintWords Go.Proofs.YtalfhpghmoikoaaW.PrintLast Go.Proofs.YtalfhpghmoikoaaW.PrintMore
theorem RootOrders_j3 (k n : Int) (hn : 0 ≤ n) (hn1 : n ≤ 4294967295) (b : Bool) (hk : b = decide (k < 0 ∨ 32 < k)) : Ev (fun m => abacistlaw03_RootOrders.j3 m k n b) true := by
  refine Ev.step (fun m => abacistlaw03_RootOrders.j3.eq_2 ..) ?_
  by_cases h : k < 0 ∨ 32 < k
  · rw [hk, decide_eq_true h]
    simp -implicitDefEqProofs only [if_true]
    exact Ev.now _
  · rw [hk, decide_eq_false h]
    obtain ⟨q, rfl⟩ := Int.eq_ofNat_of_zero_le (show 0 ≤ k by omega)
    have hq : q ≤ 32 := by omega
    have c : (0 : Int) ≤ IntKind.u64.wrap (q : Int) := (U_wrap _).1
    have hp := Nat.two_pow_pos q
    have hp2 := two_pow_lt (n := q) (m := 32) hq
    have c2 : ¬ ((2 ^ q : Nat) : Int) = 0 := by omega
    obtain ⟨m, hm, hm1⟩ : ∃ m : Nat, Int.tmod (wrap64 n) ((2 ^ q : Nat) : Int) = (m : Int) ∧ m < 2 ^ q := by
      rw [wrap64_of (by omega) (by omega), Int.tmod_eq_emod_of_nonneg hn]
      have h0 := Int.emod_nonneg n c2
      have h1 := Int.emod_lt_of_pos n (show (0 : Int) < ((2 ^ q : Nat) : Int) by omega)
      exact ⟨(n % ((2 ^ q : Nat) : Int)).toNat, by omega, by omega⟩
    simp -implicitDefEqProofs only [show ¬ (false = true) by decide, if_false, c, if_true, shl_i64 (show q ≤ 62 by omega), c2, hm, wu64_of (show U (m : Int) from ⟨by omega, by omega⟩)]
    refine Ev.bind (abacistref03_Root_ev hq) ?_
    refine Ev.bind (abacistref02_Pow_ev (un_lo _) ⟨by omega, by omega⟩) ?_
    rw [cv_un, Int.toNat_natCast]
    refine Ev.bind (root_Log_yes (U_un _) hq hm1 (cv_un _)) ?_
    simp -implicitDefEqProofs only [if_true, beq_self_eq_true]
    exact Ev.now _
theorem RootOrders_j2 (k n : Int) (hn : 0 ≤ n) (hn1 : n ≤ 4294967295) : Ev (fun m => abacistlaw03_RootOrders.j2 m k n false) true := by
  refine Ev.step (fun m => abacistlaw03_RootOrders.j2.eq_2 ..) ?_
  by_cases h : k < 0
  · simp -implicitDefEqProofs only [show ¬ (false = true) by decide, if_false, h, if_true]
    exact RootOrders_j3 k n hn hn1 true (by rw [decide_eq_true (Or.inl h)])
  · simp -implicitDefEqProofs only [show ¬ (false = true) by decide, if_false, h]
    refine RootOrders_j3 k n hn hn1 _ ?_
    by_cases h2 : k > 32
    · rw [decide_eq_true h2, decide_eq_true (Or.inr h2)]
    · rw [decide_eq_false h2, decide_eq_false (by omega)]
theorem RootOrders_j1_no (a k n g : Int) (hn : 0 ≤ n) (hn1 : n ≤ 4294967295) : Ev (fun m => abacistlaw03_RootOrders.j1 m a k n g false false) true := by
  refine Ev.step (fun m => abacistlaw03_RootOrders.j1.eq_2 ..) ?_
  exact RootOrders_j2 k n hn hn1
theorem RootOrders_j1_yes {a n : Int} (ha : U a) {k g : Nat} (hk : k ≤ 32) (hg : g < 2 ^ k) (e : cv a = rt k ^ g) (hn : 0 ≤ n) (hn1 : n ≤ 4294967295) : Ev (fun m => abacistlaw03_RootOrders.j1 m a (k : Int) n (g : Int) true false) true := by
  refine Ev.step (fun m => abacistlaw03_RootOrders.j1.eq_2 ..) ?_
  have c : (0 : Int) ≤ IntKind.u64.wrap (k : Int) := (U_wrap _).1
  have hp2 := two_pow_lt (n := k) (m := 32) hk
  simp -implicitDefEqProofs only [show ¬ (false = true) by decide, if_false, if_true, show ¬ (g : Int) < 0 by omega, c, shl_i64 (show k ≤ 62 by omega), show ¬ ((g : Int) ≥ ((2 ^ k : Nat) : Int)) by omega, wu64_of (show U (g : Int) from ⟨by omega, by omega⟩)]
  refine Ev.bind (abacistref03_Root_ev hk) ?_
  refine Ev.bind (abacistref02_Pow_ev (un_lo _) ⟨by omega, by omega⟩) ?_
  rw [cv_un, Int.toNat_natCast, abacistref02_Of_eq ha.1, ← e]
  simp -implicitDefEqProofs only [Option.bind_some, bne_self_eq_false]
  exact RootOrders_j2 k n hn hn1
theorem RootOrders_j0 {a k n x : Int} (ha : U a) (hn : 0 ≤ n) (hn1 : n ≤ 4294967295)
    (hx : (∃ m : Nat, x = m ∧ m ≤ 32 ∧ cv a ^ (2 ^ m) = 1 ∧ ∀ i, i < m → cv a ^ (2 ^ i) ≠ 1) ∨ (x = -1 ∧ ∀ i, i ≤ 32 → cv a ^ (2 ^ i) ≠ 1)) : Ev (fun m => abacistlaw03_RootOrders.j0 m a k n x false) true := by
  refine Ev.step (fun m => abacistlaw03_RootOrders.j0.eq_2 ..) ?_
  by_cases hk : k < 0 ∨ 32 < k
  · refine Ev.bind (root_Log_no ha (by rcases hk with h | h; exact .inl h; exact .inr (.inl h))) ?_
    by_cases h1 : x ≥ 0
    · by_cases h2 : k ≥ 0
      · simp -implicitDefEqProofs only [h1, h2, show ¬ k ≤ 32 by omega, if_true, if_false, bne_self_eq_false, show ¬ (false = true) by decide]
        exact RootOrders_j1_no a k n 0 hn hn1
      · simp -implicitDefEqProofs only [h1, h2, if_true, if_false, bne_self_eq_false, show ¬ (false = true) by decide]
        exact RootOrders_j1_no a k n 0 hn hn1
    · simp -implicitDefEqProofs only [h1, if_true, if_false, bne_self_eq_false, show ¬ (false = true) by decide]
      exact RootOrders_j1_no a k n 0 hn hn1
  · obtain ⟨q, rfl⟩ := Int.eq_ofNat_of_zero_le (show 0 ≤ k by omega)
    have hq : q ≤ 32 := by omega
    rcases hx with ⟨m, rfl, hm, h1, h0⟩ | ⟨rfl, h0⟩
    · by_cases hmq : m ≤ q
      · have hfull : cv a ^ (2 ^ q) = 1 := by
          have : 2 ^ q = 2 ^ m * 2 ^ (q - m) := by rw [← Nat.pow_add]; congr 1; omega
          rw [this, pow_mul', h1, one_pow']
        obtain ⟨g, hg, e⟩ := is_rt_pow hq hfull
        refine Ev.bind (root_Log_yes ha hq hg e) ?_
        simp -implicitDefEqProofs only [show (m : Int) ≥ 0 by omega, show (q : Int) ≥ 0 by omega, show (q : Int) ≤ 32 by omega, if_true, decide_eq_true (show (m : Int) ≤ (q : Int) by omega), bne_self_eq_false, show ¬ (false = true) by decide, if_false]
        exact RootOrders_j1_yes ha hq hg e hn hn1
      · refine Ev.bind (root_Log_no ha (.inr (.inr (fun i hi => h0 i (by omega))))) ?_
        simp -implicitDefEqProofs only [show (m : Int) ≥ 0 by omega, show (q : Int) ≥ 0 by omega, show (q : Int) ≤ 32 by omega, if_true, decide_eq_false (show ¬ (m : Int) ≤ (q : Int) by omega), bne_self_eq_false, show ¬ (false = true) by decide, if_false]
        exact RootOrders_j1_no a q n 0 hn hn1
    · refine Ev.bind (root_Log_no ha (.inr (.inr (fun i hi => h0 i (by omega))))) ?_
      simp -implicitDefEqProofs only [show ¬ ((-1 : Int) ≥ 0) by omega, if_false, bne_self_eq_false, show ¬ (false = true) by decide]
      exact RootOrders_j1_no a q n 0 hn hn1
theorem RootOrders : abacistlaw03_RootOrders.Pure := by
  intro a k n ha hk hn
  have hA := U_of_wf ha
  have hN := u32_of_wf hn
  refine Ev.rounds (g := fun m => abacistlaw03_RootOrders.f m a k n) ?_
  unfold abacistlaw03_RootOrders.f
  refine Ev.bind abacistlaw03_awake_ev ?_
  simp -implicitDefEqProofs only [if_true]
  rcases order_cases (cv a) with ⟨m, hm, h1, h0⟩ | h0
  · refine Ev.bind (root_OrderOf_yes hA hm h1 h0) ?_
    refine Ev.bind (abacistref03_OrderOf_yes hA hm h1 h0) ?_
    have e : mx (m : Int) 0 = (m : Int) := by unfold mx; omega
    simp -implicitDefEqProofs only [decide_eq_true (show (m : Int) ≥ 0 by omega), e, bne_self_eq_false, show ¬ (false = true) by decide, if_false]
    exact RootOrders_j0 hA hN.1 hN.2 (.inl ⟨m, rfl, hm, h1, h0⟩)
  · refine Ev.bind (root_OrderOf_no hA h0) ?_
    refine Ev.bind (abacistref03_OrderOf_no hA h0) ?_
    have e : mx (-1) 0 = 0 := by unfold mx; omega
    simp -implicitDefEqProofs only [decide_eq_false (show ¬ ((-1 : Int) ≥ 0) by omega), e, bne_self_eq_false, show ¬ (false = true) by decide, if_false]
    exact RootOrders_j0 hA hN.1 hN.2 (.inr ⟨rfl, h0⟩)
end Go.Proofs.Ytalfhpghmoikoaa.Pure
