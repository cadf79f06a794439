/- NaturalLaws: for any three rows of 64-bit words the law's call answers true: of right numbers of at most 30 digits of the base each sums and products don't hang on their order, and products share out over sums. Conditions: the rows read as rows. -/
import Derived.Test.YtaiahgnkgbfcfaaBNaturalLaws
namespace Go.Proofs.Ytaiahgnkgbfcfaa.Pure
set_option linter.unusedVariables false
set_option linter.unusedSimpArgs false
open Go Go.RowKit Go.Proofs.Ytaiahgnkgbfcfaa.M Go.Proofs.Ytaiahgnkgbfcfaa.BNaturalLaws Go.Proofs.Ytaiahgnkgbfcfaa.PNaturalLaws Go.Proofs.YtaiahgnkgbfcfaaW.PrintWords Go.Proofs.YtaiahgnkgbfcfaaW.PrintLast Go.Proofs.YtaiahgnkgbfcfaaW.PrintMore
theorem rows2 {a b l : List Int} {p : List Int → Prop} (ha : p a) (hb : p b) (hl : l ∈ [a, b]) : p l := by
  rcases List.mem_cons.1 hl with rfl | hl
  · exact ha
  · rcases List.mem_cons.1 hl with rfl | hl
    · exact hb
    · cases hl
theorem rows3 {a b c l : List Int} {p : List Int → Prop} (ha : p a) (hb : p b) (hc : p c) (hl : l ∈ [a, b, c]) : p l := by
  rcases List.mem_cons.1 hl with rfl | hl
  · exact ha
  · exact rows2 hb hc hl
theorem sum2 {a b : List Int} (ha : Nt a) (hb : Nt b) (hla : a.length ≤ 100) (hlb : b.length ≤ 100) : Ev (fun k => natural_Sum.f k [a, b]) (dgs (nv a + nv b), 0) := by
  have la := nv_lt ha.Dg
  have lb := nv_lt hb.Dg
  have pa : 65536 ^ a.length ≤ 65536 ^ 100 := Nat.pow_le_pow_right (by decide) hla
  have pb : 65536 ^ b.length ≤ 65536 ^ 100 := Nat.pow_le_pow_right (by decide) hlb
  have p1 : (65536 : Nat) ^ 101 = 65536 ^ 100 * 65536 := Nat.pow_succ ..
  have hl : (dgs (nv a + nv b)).length ≤ 101 := dgs_length_lt (by omega)
  have es : nvs [a, b] [a, b].length = nv a + nv b := by show 0 + nv a + nv b = _; omega
  have hS := natural_Sum_ev (ls := [a, b]) (fun l hl => rows2 (p := fun l => Nt l ∧ l.length ≤ 65536) ⟨ha, by omega⟩ ⟨hb, by omega⟩ hl) (show 2 < 4294967296 by decide) (by rw [es]; omega)
  rw [es] at hS
  exact hS
theorem sum3 {a b c : List Int} (ha : Nt a) (hb : Nt b) (hc : Nt c) (hla : a.length ≤ 30) (hlb : b.length ≤ 30) (hlc : c.length ≤ 30) : (dgs (nv a + nv b + nv c)).length ≤ 31 ∧ Ev (fun k => natural_Sum.f k [a, b, c]) (dgs (nv a + nv b + nv c), 0) := by
  have la := nv_lt ha.Dg
  have lb := nv_lt hb.Dg
  have lc := nv_lt hc.Dg
  have pa : 65536 ^ a.length ≤ 65536 ^ 30 := Nat.pow_le_pow_right (by decide) hla
  have pb : 65536 ^ b.length ≤ 65536 ^ 30 := Nat.pow_le_pow_right (by decide) hlb
  have pc : 65536 ^ c.length ≤ 65536 ^ 30 := Nat.pow_le_pow_right (by decide) hlc
  have p1 : (65536 : Nat) ^ 31 = 65536 ^ 30 * 65536 := Nat.pow_succ ..
  have hl : (dgs (nv a + nv b + nv c)).length ≤ 31 := dgs_length_lt (by omega)
  have es : nvs [a, b, c] [a, b, c].length = nv a + nv b + nv c := by show 0 + nv a + nv b + nv c = _; omega
  have hS := natural_Sum_ev (ls := [a, b, c]) (fun l hl => rows3 (p := fun l => Nt l ∧ l.length ≤ 65536) ⟨ha, by omega⟩ ⟨hb, by omega⟩ ⟨hc, by omega⟩ hl) (show 3 < 4294967296 by decide) (by rw [es]; omega)
  rw [es] at hS
  exact ⟨hl, hS⟩
theorem prod2 {a b : List Int} (ha : Nt a) (hb : Nt b) (hla : a.length ≤ 100) (hlb : b.length ≤ 100) : Ev (fun k => natural_Product.f k [a, b]) (dgs (nv a * nv b), 0) := by
  have hP := natural_Product_ev (ls := [a, b]) (fun l hl => rows2 ha hb hl) (by show a.length + (b.length + 0) < 65536; omega)
  rw [show nvp [a, b] = nv a * nv b by show nv a * (nv b * 1) = _; rw [Nat.mul_one]] at hP
  exact hP
theorem prod3 {a b c : List Int} (ha : Nt a) (hb : Nt b) (hc : Nt c) (hla : a.length ≤ 100) (hlb : b.length ≤ 100) (hlc : c.length ≤ 100) : Ev (fun k => natural_Product.f k [a, b, c]) (dgs (nv a * nv b * nv c), 0) := by
  have hP := natural_Product_ev (ls := [a, b, c]) (fun l hl => rows3 ha hb hc hl) (by show a.length + (b.length + (c.length + 0)) < 65536; omega)
  rw [show nvp [a, b, c] = nv a * nv b * nv c by show nv a * (nv b * (nv c * 1)) = _; rw [Nat.mul_one, Nat.mul_assoc]] at hP
  exact hP
theorem laws_go {a b c : List Int} (ha : Nt a) (hb : Nt b) (hc : Nt c) (hla : a.length ≤ 30) (hlb : b.length ≤ 30) (hlc : c.length ≤ 30) : Ev (fun k => abacistlaw31_NaturalLaws.j0 k a b c false) true := by
  refine Ev.step (fun k => abacistlaw31_NaturalLaws.j0.eq_2 ..) ?_
  simp -implicitDefEqProofs only [Bool.false_eq_true, if_false]
  obtain ⟨h1, s1⟩ := sum3 ha hb hc hla hlb hlc
  refine Ev.bind s1 ?_
  refine Ev.bind (sum3 hc ha hb hlc hla hlb).2 ?_
  refine Ev.bind (prod3 ha hb hc (by omega) (by omega) (by omega)) ?_
  refine Ev.bind (prod3 hc hb ha (by omega) (by omega) (by omega)) ?_
  rw [show nv c + nv a + nv b = nv a + nv b + nv c by omega, show nv c * nv b * nv a = nv a * nv b * nv c by rw [Nat.mul_comm (nv c * nv b), Nat.mul_comm (nv c), Nat.mul_assoc]]
  simp -implicitDefEqProofs only [if_true]
  refine Ev.bind (abacistref04_Same_refl _ (by omega)) ?_
  simp -implicitDefEqProofs only [if_true]
  have h2 := dgs_mul_length ha.Dg hb.Dg
  have h3 := dgs_mul_length (Dg_dgs (nv a * nv b)) hc.Dg
  rw [nv_dgs] at h3
  refine Ev.bind (abacistref04_Same_refl _ (by omega)) ?_
  rw [Bool.not_true]
  refine Ev.step (fun k => abacistlaw31_NaturalLaws.j1.eq_2 ..) ?_
  simp -implicitDefEqProofs only [Bool.false_eq_true, if_false]
  refine Ev.bind (sum2 hb hc (by omega) (by omega)) ?_
  have lb := nv_lt hb.Dg
  have lc := nv_lt hc.Dg
  have pb : 65536 ^ b.length ≤ 65536 ^ 30 := Nat.pow_le_pow_right (by decide) hlb
  have pc : 65536 ^ c.length ≤ 65536 ^ 30 := Nat.pow_le_pow_right (by decide) hlc
  have p1 : (65536 : Nat) ^ 31 = 65536 ^ 30 * 65536 := Nat.pow_succ ..
  have h4 : (dgs (nv b + nv c)).length ≤ 31 := dgs_length_lt (by omega)
  refine Ev.bind (prod2 ha (Nt_dgs (nv b + nv c)) (by omega) (show (dgs (nv b + nv c)).length ≤ 100 by omega)) ?_
  refine Ev.bind (prod2 ha hb (by omega) (by omega)) ?_
  refine Ev.bind (prod2 ha hc (by omega) (by omega)) ?_
  have h5 := dgs_mul_length ha.Dg hc.Dg
  refine Ev.bind (sum2 (Nt_dgs (nv a * nv b)) (Nt_dgs (nv a * nv c)) (show (dgs (nv a * nv b)).length ≤ 100 by omega) (show (dgs (nv a * nv c)).length ≤ 100 by omega)) ?_
  rw [nv_dgs, nv_dgs, nv_dgs, ← Nat.mul_add]
  simp -implicitDefEqProofs only [if_true]
  have h6 := dgs_mul_length ha.Dg (Dg_dgs (nv b + nv c))
  rw [nv_dgs] at h6
  refine Ev.bind (abacistref04_Same_refl _ (by omega)) ?_
  exact Ev.now _
theorem NaturalLaws : abacistlaw31_NaturalLaws.Pure := by
  intro a b c _ _ ha _ _ hb _ _ hc
  have ha := UL_of_wf ha
  have hb := UL_of_wf hb
  have hc := UL_of_wf hc
  refine Ev.rounds ?_
  unfold abacistlaw31_NaturalLaws.f
  refine Ev.bind abacistlaw31_awake_ev ?_
  simp -implicitDefEqProofs only [if_true]
  have out : Ev (fun k => abacistlaw31_NaturalLaws.j0 k a b c true) true := by
    refine Ev.step (fun k => abacistlaw31_NaturalLaws.j0.eq_2 ..) ?_
    simp -implicitDefEqProofs only [if_true]
    exact Ev.now _
  by_cases c1 : (a.length : Int) > 30
  · simp -implicitDefEqProofs only [c1, if_true]
    exact out
  simp -implicitDefEqProofs only [c1, if_false]
  by_cases c2 : (b.length : Int) > 30
  · simp -implicitDefEqProofs only [c2, if_true]
    exact out
  simp -implicitDefEqProofs only [c2, if_false]
  by_cases c3 : (c.length : Int) > 30
  · simp -implicitDefEqProofs only [c3, if_true]
    exact out
  simp -implicitDefEqProofs only [c3, if_false]
  refine Ev.bind (ref31_Good_ev ha (by omega)) ?_
  rcases ga : hk_good a with _ | _
  · simp -implicitDefEqProofs only [Bool.false_eq_true, if_false]
    exact out
  simp -implicitDefEqProofs only [if_true]
  refine Ev.bind (ref31_Good_ev hb (by omega)) ?_
  rcases gb : hk_good b with _ | _
  · simp -implicitDefEqProofs only [Bool.false_eq_true, if_false]
    exact out
  simp -implicitDefEqProofs only [if_true]
  refine Ev.bind (ref31_Good_ev hc (by omega)) ?_
  rcases gc : hk_good c with _ | _
  · exact out
  · exact laws_go ((hk_good_iff ha).1 ga).1 ((hk_good_iff hb).1 gb).1 ((hk_good_iff hc).1 gc).1 (by omega) (by omega) (by omega)
end Go.Proofs.Ytaiahgnkgbfcfaa.Pure
