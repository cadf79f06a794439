/- NaturalSums: for any two rows of 64-bit words the law's call answers true: of numbers of at most 30 digits of the base each natural.Compare, Sum, Sub and Product are as the document says; what is not right is refused by name. Conditions: the rows read as rows. -/
import Derived.Test.YtaiahgnkgbfcfaaBNaturalSums
namespace Go.Proofs.Ytaiahgnkgbfcfaa.Pure
set_option linter.unusedVariables false
set_option linter.unusedSimpArgs false
open Go Go.RowKit Go.Proofs.Ytaiahgnkgbfcfaa.M Go.Proofs.Ytaiahgnkgbfcfaa.BNaturalSums Go.Proofs.Ytaiahgnkgbfcfaa.PNaturalSums Go.Proofs.YtaiahgnkgbfcfaaW.PrintWords Go.Proofs.YtaiahgnkgbfcfaaW.PrintLast Go.Proofs.YtaiahgnkgbfcfaaW.PrintMore
theorem rows2 {a b l : List Int} {p : List Int → Prop} (ha : p a) (hb : p b) (hl : l ∈ [a, b]) : p l := by
  rcases List.mem_cons.1 hl with rfl | hl
  · exact ha
  · rcases List.mem_cons.1 hl with rfl | hl
    · exact hb
    · cases hl
theorem rows3 {a b c l : List Int} {p : List Int → Prop} (ha : p a) (hb : p b) (hc : p c) (hl : l ∈ [a, b, c]) : p l := by
  rcases List.mem_cons.1 hl with rfl | hl
  · exact ha
  · exact rows2 hb hc hl
theorem sums_bad {a b : List Int} (h : hk_good a = false ∨ hk_good b = false) (ha : UL a) (hb : UL b) (hla : a.length ≤ 30) (hlb : b.length ≤ 30) : Ev (fun k => abacistlaw31_NaturalSums.j0 k a b false) true := by
  refine Ev.step (fun k => abacistlaw31_NaturalSums.j0.eq_2 ..) ?_
  simp -implicitDefEqProofs only [Bool.false_eq_true, if_false]
  refine Ev.bind (natural_Compare_no h) ?_
  have hs : Ev (fun k => natural_Sum.f k [a, b, a]) ([], 10) := by
    rcases h with h | h
    · exact natural_Sum_no List.mem_cons_self h
    · exact natural_Sum_no (List.mem_cons_of_mem _ List.mem_cons_self) h
  refine Ev.bind hs ?_
  refine Ev.bind (natural_Sub_no h) ?_
  have hp : Ev (fun k => natural_Product.f k [a, b]) ([], 10) := by
    rcases h with h | h
    · exact natural_Product_no List.mem_cons_self h
    · exact natural_Product_no (List.mem_cons_of_mem _ List.mem_cons_self) h
  refine Ev.bind hp ?_
  refine Ev.bind (ref31_Good_ev ha (by omega)) ?_
  have last : Ev (fun k => abacistlaw31_NaturalSums.j1 k a b 0 10 [] 10 [] 10 [] 10 true) true := by
    refine Ev.step (fun k => abacistlaw31_NaturalSums.j1.eq_2 ..) ?_
    simp -implicitDefEqProofs only [if_true, List.length_nil, show ((0 : Nat) : Int) = 0 from rfl, beq_self_eq_true]
    exact Ev.now _
  rcases hg : hk_good a with _ | _
  · simp -implicitDefEqProofs only [Bool.false_eq_true, if_false]
    exact last
  · simp -implicitDefEqProofs only [if_true]
    refine Ev.bind (ref31_Good_ev hb (by omega)) ?_
    have hb' : hk_good b = false := by
      rcases h with h | h
      · rw [hg] at h; cases h
      · exact h
    rw [hb']
    exact last
theorem sums_good {a b : List Int} (ha : Nt a) (hb : Nt b) (hla : a.length ≤ 30) (hlb : b.length ≤ 30) : Ev (fun k => abacistlaw31_NaturalSums.j0 k a b false) true := by
  have hga := Nt_good ha (by omega)
  have hgb := Nt_good hb (by omega)
  have hua := Dg_UL ha.Dg
  have hub := Dg_UL hb.Dg
  have la := nv_lt ha.Dg
  have lb := nv_lt hb.Dg
  have pa : 65536 ^ a.length ≤ 65536 ^ 30 := Nat.pow_le_pow_right (by decide) hla
  have pb : 65536 ^ b.length ≤ 65536 ^ 30 := Nat.pow_le_pow_right (by decide) hlb
  have p31 : (65536 : Nat) ^ 31 = 65536 ^ 30 * 65536 := Nat.pow_succ ..
  have l31 : ∀ x, x ≤ 2 * nv a + nv b → (dgs x).length ≤ 31 := fun x hx => dgs_length_lt (by omega)
  refine Ev.step (fun k => abacistlaw31_NaturalSums.j0.eq_2 ..) ?_
  simp -implicitDefEqProofs only [Bool.false_eq_true, if_false]
  refine Ev.bind (natural_Compare_ev ha hb (by omega) (by omega)) ?_
  have es : nvs [a, b, a] [a, b, a].length = nv a + nv b + nv a := by show 0 + nv a + nv b + nv a = _; omega
  have hS := natural_Sum_ev (ls := [a, b, a]) (fun l hl => rows3 (p := fun l => Nt l ∧ l.length ≤ 65536) ⟨ha, by omega⟩ ⟨hb, by omega⟩ ⟨ha, by omega⟩ hl) (show 3 < 4294967296 by decide) (by rw [es]; have := l31 (nv a + nv b + nv a) (by omega); omega)
  rw [es] at hS
  refine Ev.bind hS ?_
  obtain ⟨D, G, hD, hE⟩ : ∃ D G, (nv a < nv b ∧ D = [] ∧ G = 1 ∨ nv b ≤ nv a ∧ D = dgs (nv a - nv b) ∧ G = 0) ∧ Ev (fun k => natural_Sub.f k a b) (D, G) := by
    by_cases c : nv a < nv b
    · exact ⟨[], 1, .inl ⟨c, rfl, rfl⟩, natural_Sub_less ha hb (by omega) (by omega) c⟩
    · exact ⟨_, 0, .inr ⟨by omega, rfl, rfl⟩, natural_Sub_ev ha hb (by omega) (by omega) (by omega)⟩
  refine Ev.bind hE ?_
  have hP := natural_Product_ev (ls := [a, b]) (fun l hl => rows2 ha hb hl) (by show a.length + (b.length + 0) < 65536; omega)
  rw [show nvp [a, b] = nv a * nv b by show nv a * (nv b * 1) = _; rw [Nat.mul_one]] at hP
  refine Ev.bind hP ?_
  refine Ev.bind (ref31_Good_ev hua (by omega)) ?_
  rw [hga]
  simp -implicitDefEqProofs only [if_true]
  refine Ev.bind (ref31_Good_ev hub (by omega)) ?_
  rw [hgb, Bool.not_true]
  refine Ev.step (fun k => abacistlaw31_NaturalSums.j1.eq_2 ..) ?_
  simp -implicitDefEqProofs only [Bool.false_eq_true, if_false]
  have last : ∀ w : Int, w = ordr (nv a : Int) (nv b : Int) → Ev (fun k => abacistlaw31_NaturalSums.j3 k a b (ordr (nv a : Int) (nv b : Int)) 0 (dgs (nv a + nv b + nv a)) 0 D G (dgs (nv a * nv b)) 0 w) true := fun w hw => by
    subst hw
    refine Ev.step (fun k => abacistlaw31_NaturalSums.j3.eq_2 ..) ?_
    simp -implicitDefEqProofs only [if_true]
    refine Ev.bind (ref31_Add_ev ha.Dg hb.Dg (by omega) (by omega)) ?_
    have h1 := l31 (nv a + nv b) (by omega)
    refine Ev.bind (ref31_Add_ev (Dg_dgs _) ha.Dg (by omega) (by omega)) ?_
    rw [nv_dgs]
    have h2 := l31 (nv a + nv b + nv a) (by omega)
    refine Ev.bind (abacistref04_Same_refl _ (by omega)) ?_
    simp -implicitDefEqProofs only [if_true]
    refine Ev.bind (ref31_Mul_ev ha.Dg hb.Dg (by omega)) ?_
    have h3 := dgs_mul_length ha.Dg hb.Dg
    refine Ev.bind (abacistref04_Same_refl _ (by omega)) ?_
    rw [Bool.not_true]
    refine Ev.step (fun k => abacistlaw31_NaturalSums.j4.eq_2 ..) ?_
    simp -implicitDefEqProofs only [Bool.false_eq_true, if_false]
    rcases hD with ⟨c, rfl, rfl⟩ | ⟨c, rfl, rfl⟩
    · rw [ordr_nat c]
      simp -implicitDefEqProofs only [show (-1 : Int) < 0 by decide, if_true, List.length_nil, show ((0 : Nat) : Int) = 0 from rfl, beq_self_eq_true]
      exact Ev.now _
    · have e : ¬ ordr (nv a : Int) (nv b : Int) < 0 := by unfold ordr; rw [if_neg (by omega)]; split <;> omega
      simp -implicitDefEqProofs only [e, if_false, if_true]
      have h4 := l31 (nv a - nv b) (by omega)
      refine Ev.bind (ref31_Good_ev (Dg_UL (Dg_dgs _)) (by omega)) ?_
      rw [Nt_good (Nt_dgs _) (by omega)]
      simp -implicitDefEqProofs only [if_true]
      refine Ev.bind (ref31_Add_ev (Dg_dgs _) hb.Dg (by omega) (by omega)) ?_
      rw [nv_dgs, Nat.sub_add_cancel c, ← show a = dgs (nv a) from ha]
      refine Ev.bind (abacistref04_Same_refl _ (by omega)) ?_
      exact Ev.now _
  have second : ∀ w : Int, (nv b < nv a → True) → (¬ nv b < nv a → w = ordr (nv a : Int) (nv b : Int)) → Ev (fun k => abacistlaw31_NaturalSums.j2 k a b (ordr (nv a : Int) (nv b : Int)) 0 (dgs (nv a + nv b + nv a)) 0 D G (dgs (nv a * nv b)) 0 w) true := fun w _ hw => by
    refine Ev.step (fun k => abacistlaw31_NaturalSums.j2.eq_2 ..) ?_
    refine Ev.bind (ref31_Less_ev hb ha (by omega)) ?_
    by_cases c : nv b < nv a
    · simp -implicitDefEqProofs only [decide_eq_true c, if_true]
      exact last 1 (ordr_gt c).symm
    · simp -implicitDefEqProofs only [decide_eq_false c, Bool.false_eq_true, if_false]
      exact last w (hw c)
  refine Ev.bind (ref31_Less_ev ha hb (by omega)) ?_
  by_cases c : nv a < nv b
  · simp -implicitDefEqProofs only [decide_eq_true c, if_true]
    exact second (-1) (fun _ => trivial) (fun _ => (ordr_nat c).symm)
  · simp -implicitDefEqProofs only [decide_eq_false c, Bool.false_eq_true, if_false]
    refine second 0 (fun _ => trivial) (fun d => ?_)
    rw [show nv a = nv b by omega, ordr_eq]
theorem NaturalSums : abacistlaw31_NaturalSums.Pure := by
  intro a b _ _ ha _ _ hb
  have ha := UL_of_wf ha
  have hb := UL_of_wf hb
  refine Ev.rounds ?_
  unfold abacistlaw31_NaturalSums.f
  refine Ev.bind abacistlaw31_awake_ev ?_
  simp -implicitDefEqProofs only [if_true]
  have out : Ev (fun k => abacistlaw31_NaturalSums.j0 k a b true) true := by
    refine Ev.step (fun k => abacistlaw31_NaturalSums.j0.eq_2 ..) ?_
    simp -implicitDefEqProofs only [if_true]
    exact Ev.now _
  by_cases c1 : (a.length : Int) > 30
  · simp -implicitDefEqProofs only [c1, if_true]
    exact out
  · simp -implicitDefEqProofs only [c1, if_false]
    by_cases c2 : (b.length : Int) > 30
    · rw [decide_eq_true c2]; exact out
    · rw [decide_eq_false c2]
      rcases hga : hk_good a with _ | _
      · exact sums_bad (.inl hga) ha hb (by omega) (by omega)
      · rcases hgb : hk_good b with _ | _
        · exact sums_bad (.inr hgb) ha hb (by omega) (by omega)
        · exact sums_good ((hk_good_iff ha).1 hga).1 ((hk_good_iff hb).1 hgb).1 (by omega) (by omega)
end Go.Proofs.Ytaiahgnkgbfcfaa.Pure
