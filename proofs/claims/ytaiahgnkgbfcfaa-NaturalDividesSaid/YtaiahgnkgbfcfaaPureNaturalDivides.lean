/- NaturalDivides: for any row of 64-bit words and any word the law's call answers true: of a number of at most 30 digits of the base quotient and rest by a word, and a root and its rest, make the number again; what is not right is refused by name. Conditions: the row reads as a row. -/
import Derived.Test.YtaiahgnkgbfcfaaBNaturalDivides
namespace Go.Proofs.Ytaiahgnkgbfcfaa.Pure
set_option linter.unusedVariables false
set_option linter.unusedSimpArgs false
open Go Go.RowKit Go.Proofs.Ytaiahgnkgbfcfaa.M Go.Proofs.Ytaiahgnkgbfcfaa.BNaturalDivides Go.Proofs.Ytaiahgnkgbfcfaa.PNaturalDivides Go.Proofs.YtaiahgnkgbfcfaaW.PrintWords Go.Proofs.YtaiahgnkgbfcfaaW.PrintLast Go.Proofs.YtaiahgnkgbfcfaaW.PrintMore
theorem divides_j0 {a : List Int} (ha : Nt a) (hl : a.length ≤ 30) {n : Nat} (hn : n < 18446744073709551616) : ∃ q r e, Ev (fun k => natural_DivSmall.f k a (n : Int)) (q, r, e) ∧ Ev (fun k => abacistlaw31_NaturalDivides.j0 k a (n : Int) q r e false) true := by
  by_cases c1 : n = 0
  · subst c1
    refine ⟨[], 0, 13, natural_DivSmall_zero (Nt_good ha (by omega)), ?_⟩
    refine Ev.step (fun k => abacistlaw31_NaturalDivides.j0.eq_2 ..) ?_
    simp -implicitDefEqProofs only [Bool.false_eq_true, if_false, show ((0 : Nat) : Int) = 0 from rfl, if_true, beq_self_eq_true]
    exact Ev.now _
  by_cases c2 : 4294967296 < n
  · refine ⟨[], 0, 1, natural_DivSmall_large (Nt_good ha (by omega)) (by omega), ?_⟩
    refine Ev.step (fun k => abacistlaw31_NaturalDivides.j0.eq_2 ..) ?_
    simp -implicitDefEqProofs only [Bool.false_eq_true, if_false, show ¬ (n : Int) = 0 by omega, show (n : Int) > 4294967296 by omega, if_true, beq_self_eq_true]
    exact Ev.now _
  refine ⟨_, _, _, natural_DivSmall_ev ha (by omega) (by omega) (by omega), ?_⟩
  refine Ev.step (fun k => abacistlaw31_NaturalDivides.j0.eq_2 ..) ?_
  simp -implicitDefEqProofs only [Bool.false_eq_true, if_false, show ¬ (n : Int) = 0 by omega, show ¬ (n : Int) > 4294967296 by omega, if_true]
  have hq : (dgs (nv a / n)).length ≤ 30 := by
    have := dgs_length_lt (n := nv a / n) (k := a.length) (Nat.lt_of_le_of_lt (Nat.div_le_self _ _) (nv_lt ha.Dg))
    omega
  refine Ev.bind (ref31_Good_ev (Dg_UL (Dg_dgs _)) (by omega)) ?_
  rw [Nt_good (Nt_dgs _) (by omega)]
  have hr := Nat.mod_lt (nv a) (show 0 < n by omega)
  simp -implicitDefEqProofs only [if_true, show ((nv a % n : Nat) : Int) < (n : Int) by omega]
  refine Ev.bind (natural_Of_ev hn) ?_
  have h1 : (dgs n).length ≤ 4 := dgs_length_lt (by omega)
  refine Ev.bind (ref31_Mul_ev (Dg_dgs _) (Dg_dgs _) (by omega)) ?_
  refine Ev.bind (natural_Of_ev (n := nv a % n) (by omega)) ?_
  have h2 : (dgs (nv a % n)).length ≤ 4 := dgs_length_lt (by omega)
  have h3 := dgs_mul_length (Dg_dgs (nv a / n)) (Dg_dgs n)
  refine Ev.bind (ref31_Add_ev (Dg_dgs _) (Dg_dgs _) (by omega) (by omega)) ?_
  rw [nv_dgs, nv_dgs, nv_dgs, nv_dgs, Nat.mul_comm, Nat.div_add_mod, ← show a = dgs (nv a) from ha]
  refine Ev.bind (abacistref04_Same_refl _ (by omega)) ?_
  exact Ev.now _
theorem divides_good {a : List Int} (ha : Nt a) (hl : a.length ≤ 30) {n : Nat} (hn : n < 18446744073709551616) : Ev (fun k => (natural_DivSmall.f k a (n : Int)).bind fun bt358 => ((natural_Root.f k a).bind fun bt363 => ((abacistref31_Good.f k a).bind fun t370 => (if t370 = true then ((abacistref31_Add.f k bt363.1 (([1] : List Int))).bind fun t374 => (if bt363.2.2 = 0 then ((abacistref31_Good.f k bt363.1).bind fun t377 => (if t377 = true then ((abacistref31_Good.f k bt363.2.1).bind fun t378 => (if t378 = true then ((abacistref31_Mul.f k bt363.1 bt363.1).bind fun t379 => ((abacistref31_Add.f k t379 bt363.2.1).bind fun t382 => ((abacistref04_Same.f k t382 a).bind fun t385 => (if t385 = true then ((abacistref31_Mul.f k t374 t374).bind fun t386 => ((abacistref31_Less.f k a t386).bind fun t389 => (abacistlaw31_NaturalDivides.j0 k a (n : Int) bt358.1 bt358.2.1 bt358.2.2 (!t389)))) else (abacistlaw31_NaturalDivides.j0 k a (n : Int) bt358.1 bt358.2.1 bt358.2.2 true))))) else (abacistlaw31_NaturalDivides.j0 k a (n : Int) bt358.1 bt358.2.1 bt358.2.2 true))) else (abacistlaw31_NaturalDivides.j0 k a (n : Int) bt358.1 bt358.2.1 bt358.2.2 true))) else (abacistlaw31_NaturalDivides.j0 k a (n : Int) bt358.1 bt358.2.1 bt358.2.2 true))) else (if bt358.2.2 = 10 then (if bt363.2.2 = 10 then (if (bt358.1.length : Int) = 0 then (if bt358.2.1 = 0 then (if (bt363.1.length : Int) = 0 then (some ((bt363.2.1.length : Int) == 0)) else (some false)) else (some false)) else (some false)) else (some false)) else (some false)))))) true := by
  obtain ⟨q, r, e, hE, hJ⟩ := divides_j0 ha hl hn
  refine Ev.bind hE ?_
  obtain ⟨R, r1, r2, hR⟩ := natural_Root_ev ha (by omega)
  refine Ev.bind hR ?_
  have hRl := root_len r1
  rw [← show a = dgs (nv a) from ha] at hRl
  have hYl : (dgs (nv a - R * R)).length ≤ 30 := by
    have := dgs_length_lt (n := nv a - R * R) (k := a.length) (Nat.lt_of_le_of_lt (Nat.sub_le _ _) (nv_lt ha.Dg))
    omega
  refine Ev.bind (ref31_Good_ev (Dg_UL ha.Dg) (by omega)) ?_
  rw [Nt_good ha (by omega)]
  simp -implicitDefEqProofs only [if_true]
  refine Ev.bind (ref31_Add_ev (Dg_dgs R) (Dg_one (by decide) (by decide)) (by omega) (by decide)) ?_
  refine Ev.bind (ref31_Good_ev (Dg_UL (Dg_dgs R)) (by omega)) ?_
  rw [Nt_good (Nt_dgs R) (by omega)]
  simp -implicitDefEqProofs only [if_true]
  refine Ev.bind (ref31_Good_ev (Dg_UL (Dg_dgs (nv a - R * R))) (by omega)) ?_
  rw [Nt_good (Nt_dgs _) (by omega)]
  simp -implicitDefEqProofs only [if_true]
  refine Ev.bind (ref31_Mul_ev (Dg_dgs R) (Dg_dgs R) (by omega)) ?_
  have h3 := dgs_mul_length (Dg_dgs R) (Dg_dgs R)
  refine Ev.bind (ref31_Add_ev (Dg_dgs _) (Dg_dgs _) (by omega) (by omega)) ?_
  rw [nv_dgs, nv_dgs, nv_dgs, Nat.add_sub_cancel' r1, ← show a = dgs (nv a) from ha]
  refine Ev.bind (abacistref04_Same_refl _ (by omega)) ?_
  rw [show nv [1] = 1 from rfl]
  simp -implicitDefEqProofs only [if_true]
  have h4 : (dgs (R + 1)).length ≤ 31 := by
    apply dgs_length_lt
    have h5 := nv_lt (Dg_dgs R)
    rw [nv_dgs] at h5
    have h6 : 65536 ^ (dgs R).length ≤ 65536 ^ 30 := Nat.pow_le_pow_right (by decide) (by omega)
    have h7 : (65536 : Nat) ^ 31 = 65536 ^ 30 * 65536 := Nat.pow_succ ..
    omega
  refine Ev.bind (ref31_Mul_ev (Dg_dgs (R + 1)) (Dg_dgs (R + 1)) (by omega)) ?_
  refine Ev.bind (ref31_Less_ev ha (Nt_dgs _) (by omega)) ?_
  rw [nv_dgs, nv_dgs, decide_eq_true r2, Bool.not_true]
  exact hJ
theorem NaturalDivides : abacistlaw31_NaturalDivides.Pure := by
  intro a n _ _ ha hn
  have ha := UL_of_wf ha
  have hn := U_of_wf hn
  obtain ⟨m, rfl⟩ := Int.eq_ofNat_of_zero_le hn.1
  refine Ev.rounds ?_
  unfold abacistlaw31_NaturalDivides.f
  refine Ev.bind abacistlaw31_awake_ev ?_
  simp -implicitDefEqProofs only [if_true]
  by_cases c1 : (a.length : Int) > 30
  · simp -implicitDefEqProofs only [c1, if_true]
    exact Ev.now _
  simp -implicitDefEqProofs only [c1, if_false]
  rcases hg : hk_good a with _ | _
  · refine Ev.bind (natural_DivSmall_no hg _) ?_
    refine Ev.bind (natural_Root_no hg) ?_
    refine Ev.bind (ref31_Good_ev ha (by omega)) ?_
    rw [hg]
    simp -implicitDefEqProofs only [Bool.false_eq_true, if_false, if_true, List.length_nil, show ((0 : Nat) : Int) = 0 from rfl, beq_self_eq_true]
    exact Ev.now _
  · exact divides_good ((hk_good_iff ha).1 hg).1 (by omega) (by have := hn.2; omega)
end Go.Proofs.Ytaiahgnkgbfcfaa.Pure
