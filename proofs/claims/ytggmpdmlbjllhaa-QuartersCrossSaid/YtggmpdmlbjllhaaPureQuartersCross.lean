/- QuartersCross: for any five 64-bit words and any two numbers the law's call answers true: a crossing's four words are the document's sums and differences, the number of goes is half the exponent and its rest, and the root of order four squared is -1; what is refused is refused by name. No condition beyond the row's own reading. -/
import Derived.Test.YtggmpdmlbjllhaaBQuartersCross
namespace Go.Proofs.Ytggmpdmlbjllhaa.Pure
set_option linter.unusedVariables false
set_option linter.unusedSimpArgs false
open Go Go.RowKit Go.Proofs.Ytggmpdmlbjllhaa.M Go.Proofs.Ytggmpdmlbjllhaa.BQuartersCross Go.Proofs.Ytggmpdmlbjllhaa.PQuartersCross Go.Proofs.YtggmpdmlbjllhaaW.PrintWords Go.Proofs.YtggmpdmlbjllhaaW.PrintLast Go.Proofs.YtggmpdmlbjllhaaW.PrintMore
theorem dr_two_sq_un {d : Int} (hd : d = 0 ∨ d = 1) : un (cv (un (dr 2 d)) * cv (un (dr 2 d))) = 18446744069414584320 := by
  rw [cv_un, dr_two_sq hd]
  decide +kernel
theorem QuartersCross : abacistlaw10_QuartersCross.Pure := by
  intro a b c d u kk dir ha hb hc hd hu _ _
  have ua := U_of_wf ha
  have ub := U_of_wf hb
  have uc := U_of_wf hc
  have ud := U_of_wf hd
  have uu := U_of_wf hu
  obtain ⟨K1, A1⟩ := abacistlaw10_awake_ev
  obtain ⟨K2, A2⟩ := abacistref02_Mul_ev uu.1 ub
  obtain ⟨K3, A3⟩ := abacistref02_Mul_ev uu.1 ud
  have hST : ∃ n m e : Int, kern4_Steps.f kk = some (n, m, e) ∧ (((decide (kk < 0) = true ∨ (decide (kk < 0) = false ∧ decide (20 < kk) = true)) ∧ e = 1 ∧ n = 0 ∧ m = 0) ∨ (decide (kk < 0) = false ∧ decide (20 < kk) = false ∧ e = 0 ∧ wrap64 (wrap64 (2 * n) + m) = kk ∧ decide (0 ≤ m) = true ∧ decide (m ≤ 1) = true)) := by
    by_cases h : kk < 0 ∨ 20 < kk
    · refine ⟨0, 0, 1, kern4_Steps_no h, .inl ⟨?_, rfl, rfl, rfl⟩⟩
      by_cases h0 : kk < 0
      · exact .inl (decide_eq_true h0)
      · exact .inr ⟨decide_eq_false h0, decide_eq_true (by omega)⟩
    · obtain ⟨k, rfl⟩ : ∃ k : Nat, kk = (k : Int) := ⟨kk.toNat, by omega⟩
      refine ⟨_, _, _, kern4_Steps_yes (by omega), .inr ⟨decide_eq_false (by omega), decide_eq_false (by omega), rfl, ?_, decide_eq_true (by omega), decide_eq_true (by omega)⟩⟩
      have h1 : k ≤ 20 := by omega
      clear h
      rw [wrap64_of (a := 2 * ((k / 2 : Nat) : Int)) (by omega) (by omega), wrap64_of (by omega) (by omega)]
      omega
  have hUN : ∃ wu f : Int, ∃ K4 : Nat, (∀ k, K4 ≤ k → kern4_Unit.f k dir = some (wu, f)) ∧ (((dir = 0 ∨ dir = 1) ∧ f = 0 ∧ ∀ k, K4 ≤ k → abacistref02_Mul.f k wu wu = some 18446744069414584320) ∨ ((dir == 0) = false ∧ (dir == 1) = false ∧ f = 18 ∧ wu = 0)) := by
    by_cases h : dir = 0 ∨ dir = 1
    · obtain ⟨K5, A5⟩ := kern4_Unit_ev h
      obtain ⟨K6, A6⟩ := abacistref02_Mul_ev (U_un (dr 2 dir)).1 (U_un (dr 2 dir))
      rw [dr_two_sq_un h] at A6
      exact ⟨_, _, max K5 K6, fun k hk => A5 k (by omega), .inl ⟨h, rfl, fun k hk => A6 k (by omega)⟩⟩
    · obtain ⟨K5, A5⟩ := kern4_Unit_kind h
      exact ⟨_, _, K5, A5, .inr ⟨beq_eq_false_iff_ne.2 (fun e => h (.inl e)), beq_eq_false_iff_ne.2 (fun e => h (.inr e)), rfl, rfl⟩⟩
  obtain ⟨n, m, e, hs, hk⟩ := hST
  obtain ⟨wu, f, K4, hu4, hd4⟩ := hUN
  obtain ⟨K, hK⟩ : ∃ K, K = max (max K1 K2) (max K3 K4) := ⟨_, rfl⟩
  have cr := hk_crossO_eq ua ub uc ud uu
  refine ⟨K, un ((cv a + cv c) + (cv b + cv d)), un ((cv a - cv c) + cv u * (cv b - cv d)), un ((cv a + cv c) - (cv b + cv d)), un ((cv a - cv c) - cv u * (cv b - cv d)),
    un (cv a + cv b), un (cv c + cv d), un (cv a + cv u * cv b), un (cv c + cv u * cv d), un (cv a + cv c), un (cv b + cv d), un (cv a + cv u * cv d), un (cv c + cv u * cv b), un (cv u * cv b), un (cv u * cv d), wu, f, n, m, e,
    A1 K (by omega), cr, abacistref02_Add_eq ua.1 ub.1, abacistref02_Add_eq uc.1 ud.1, ?_, ?_, ?_, abacistref02_Add_eq ua.1 uc.1, abacistref02_Add_eq ub.1 ud.1, ?_, ?_, ?_, ?_, ?_, A2 K (by omega), A3 K (by omega), hs, hu4 K (by omega), ?_, hk⟩
  · rw [abacistref02_Add_eq (U_un _).1 (U_un _).1, cv_un, cv_un, k0]
  · rw [abacistref02_Add_eq ua.1 (U_un _).1, cv_un]
  · rw [abacistref02_Add_eq uc.1 (U_un _).1, cv_un]
  · rw [abacistref02_Add_eq ua.1 (U_un _).1, cv_un]
  · rw [abacistref02_Add_eq uc.1 (U_un _).1, cv_un]
  · rw [abacistref02_Sub_eq (U_un _).1 (U_un _).1, cv_un, cv_un, k1]
  · rw [abacistref02_Sub_eq (U_un _).1 (U_un _).1, cv_un, cv_un]
  · rw [abacistref02_Sub_eq (U_un _).1 (U_un _).1, cv_un, cv_un, k2]
  · rcases hd4 with ⟨h1, h2, h3⟩ | h
    · exact .inl ⟨h1, h2, h3 K (by omega)⟩
    · exact .inr h
where
  k0 {R : Nat} [NeZero R] {a b c d : Fin R} : a + b + (c + d) = a + c + (b + d) := by grind
  k1 {R : Nat} [NeZero R] {a b c d u : Fin R} : a + u * b - (c + u * d) = a - c + u * (b - d) := by grind
  k2 {R : Nat} [NeZero R] {a b c d u : Fin R} : a + u * d - (c + u * b) = a - c - u * (b - d) := by grind
end Go.Proofs.Ytggmpdmlbjllhaa.Pure
