/- RootSums: for any byte k the law's call answers true: of the exponent n = 1 + k % 6 a root's square is the next lesser root, its powers are unlike, half of them on they are the negatives, and their sum is 0. No condition beyond the kind of the argument. -/
import Derived.Test.YtalfhpghmoikoaaBRootSums
namespace Go.Proofs.Ytalfhpghmoikoaa.Pure
set_option linter.unusedVariables false
set_option linter.unusedSimpArgs false
open Go Go.RowKit Go.Proofs.Ytalfhpghmoikoaa.M Go.Proofs.Ytalfhpghmoikoaa.BRootSums Go.Proofs.Ytalfhpghmoikoaa.PRootSums Go.Proofs.YtalfhpghmoikoaaW.PrintWords Go.Proofs.YtalfhpghmoikoaaW.PrintLast Go.Proofs.YtalfhpghmoikoaaW.PrintMore
theorem RootSums_j2 {n : Nat} (hn0 : 1 ≤ n) (hn : n ≤ 6) {i : Nat} (hi : i < 2 ^ n) {s : Int} (ih : Ev (fun k => abacistlaw03_RootSums.l0 k (tab (2 ^ n) (fun i => rt n ^ i)) s ((i + 1 : Nat) : Int)) true) :
    Ev (fun k => abacistlaw03_RootSums.j2 k (tab (2 ^ n) (fun i => rt n ^ i)) s (i : Int) false) true := by
  have h2 := two_pow_lt (n := n) (m := 6) hn
  refine Ev.step (fun k => abacistlaw03_RootSums.j2.eq_2 ..) ?_
  refine Ev_loop i (fun k j => abacistlaw03_RootSums.l1 k (tab (2 ^ n) (fun i => rt n ^ i)) s (i : Int) (j : Int)) ?_ (fun j hj ih => ?_) 0 (Nat.zero_le _)
  · refine Ev.step (fun k => abacistlaw03_RootSums.l1.eq_2 ..) ?_
    simp -implicitDefEqProofs only [Int.lt_irrefl, if_false, nat64_succ (show i < 9223372036854775807 by omega)]
    exact ih
  · refine Ev.step (fun k => abacistlaw03_RootSums.l1.eq_2 ..) ?_
    have c1 : (j : Int) < (i : Int) := by omega
    have c2 : (0 : Int) ≤ (j : Int) := by omega
    have c3 : (j : Int) < ((2 ^ n : Nat) : Int) := by omega
    have c4 : (0 : Int) ≤ (i : Int) := by omega
    have c5 : (i : Int) < ((2 ^ n : Nat) : Int) := by omega
    have c6 : ¬ un (rt n ^ j) = un (rt n ^ i) := fun h => by have := rt_pow_inj (by omega) (by omega) hi (un_inj h); omega
    simp -implicitDefEqProofs only [c1, c2, c3, c4, c5, c6, tab_length, rd_tab hi, rd_tab (show j < 2 ^ n by omega), if_true, if_false, nat64_succ (show j < 9223372036854775807 by omega)]
    exact ih
theorem RootSums_l0 {n : Nat} (hn0 : 1 ≤ n) (hn : n ≤ 6) : Ev (fun k => abacistlaw03_RootSums.l0 k (tab (2 ^ n) (fun i => rt n ^ i)) 0 0) true := by
  have h2 := two_pow_lt (n := n) (m := 6) hn
  have hp := Nat.two_pow_pos (n - 1)
  obtain ⟨q, hq⟩ : ∃ q, 2 ^ n = 2 * q ∧ q = 2 ^ (n - 1) := ⟨2 ^ (n - 1), by rw [← Nat.pow_succ']; congr 1; omega, rfl⟩
  refine Ev_loop (2 ^ n) (fun k i => abacistlaw03_RootSums.l0 k (tab (2 ^ n) (fun i => rt n ^ i)) (un (Sm i (fun i => rt n ^ i))) (i : Int)) ?_ (fun i hi ih => ?_) 0 (Nat.zero_le _)
  · refine Ev.step (fun k => abacistlaw03_RootSums.l0.eq_2 ..) ?_
    have e : Sm (2 ^ n) (fun i => rt n ^ i) = 0 := by
      refine geo_zero ?_ (rt_pow_full (by omega))
      have := rt_order (k := n) (m := 1) (by omega) (by omega) (by omega)
      intro h; exact this (by rw [h]; grind)
    simp -implicitDefEqProofs only [tab_length, Int.lt_irrefl, if_false, e, un_zero, beq_self_eq_true]
    exact Ev.now _
  · refine Ev.step (fun k => abacistlaw03_RootSums.l0.eq_2 ..) ?_
    have c1 : (i : Int) < ((2 ^ n : Nat) : Int) := by omega
    have c2 : (0 : Int) ≤ (i : Int) := by omega
    have c3 : wrap64 (((2 ^ n : Nat) : Int) / 2) = (q : Int) := by rw [wrap64_of (by omega) (by omega)]; omega
    simp -implicitDefEqProofs only [c1, c2, c3, tab_length, rd_tab hi, if_true, abacistref02_Add_eq (un_lo _) (un_lo _), Option.bind_some, cv_un, ← Sm_succ]
    by_cases c4 : (i : Int) ≥ (q : Int)
    · have e1 : wrap64 ((i : Int) - (q : Int)) = ((i - q : Nat) : Int) := by rw [wrap64_of (by omega) (by omega)]; omega
      have c5 : (0 : Int) ≤ ((i - q : Nat) : Int) := by omega
      have c6 : ((i - q : Nat) : Int) < ((2 ^ n : Nat) : Int) := by omega
      have e2 : rt n ^ i + rt n ^ (i - q) = 0 := by
        have : rt n ^ i = rt n ^ q * rt n ^ (i - q) := by rw [← pow_add']; congr 1; omega
        obtain ⟨m, rfl⟩ : ∃ m, n = m + 1 := ⟨n - 1, by omega⟩
        have hh := rt_half (k := m) (by omega)
        rw [Nat.add_sub_cancel] at hq
        rw [this, hq.2, hh]; grind
      simp -implicitDefEqProofs only [c4, c5, c6, e1, rd_tab (show i - q < 2 ^ n by omega), if_true, abacistref02_Add_eq (un_lo _) (un_lo _), Option.bind_some, cv_un, e2, un_zero, bne_self_eq_false]
      exact RootSums_j2 hn0 hn hi ih
    · simp -implicitDefEqProofs only [c4, if_false]
      exact RootSums_j2 hn0 hn hi ih
theorem RootSums : abacistlaw03_RootSums.Pure := by
  intro a ha
  have hA := u8_of_wf ha
  refine Ev.rounds (g := fun k => abacistlaw03_RootSums.f k a) ?_
  unfold abacistlaw03_RootSums.f
  refine Ev.bind abacistlaw03_awake_ev ?_
  simp -implicitDefEqProofs only [if_true]
  obtain ⟨n, hn, h1, h2⟩ : ∃ n : Nat, wrap64 (1 + Int.tmod (wrap64 a) 6) = ((n + 1 : Nat) : Int) ∧ n + 1 ≤ 6 ∧ wrap64 (wrap64 (1 + Int.tmod (wrap64 a) 6) - 1) = (n : Int) := by
    rw [wrap64_of (a := a) (by omega) (by omega), Int.tmod_eq_emod_of_nonneg hA.1]
    refine ⟨(a % 6).toNat, ?_, by omega, ?_⟩
    · rw [wrap64_of (by omega) (by omega)]; omega
    · rw [wrap64_of (a := 1 + a % 6) (by omega) (by omega), wrap64_of (by omega) (by omega)]; omega
  have hp := two_pow_lt (n := n + 1) (m := 6) h1
  rw [h2, hn]
  refine Ev.bind (root_Root_ev (by omega)) ?_
  refine Ev.bind (root_Root_ev (by omega)) ?_
  have c : (0 : Int) ≤ IntKind.u64.wrap ((n + 1 : Nat) : Int) := (U_wrap _).1
  simp -implicitDefEqProofs only [c, if_true, shl_i64 (show n + 1 ≤ 62 by omega)]
  refine Ev.bind (root_Powers_ev (U_un _) (by omega)) ?_
  simp -implicitDefEqProofs only [tab_length, if_true, cv_un]
  refine Ev.bind (abacistref02_Mul_ev (un_lo _) (U_un _)) ?_
  rw [cv_un, rt_sq (by omega), bne_self_eq_false]
  refine Ev.step (fun k => abacistlaw03_RootSums.j0.eq_2 ..) ?_
  exact RootSums_l0 (by omega) (by omega)
end Go.Proofs.Ytalfhpghmoikoaa.Pure
