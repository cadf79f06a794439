/- ConvLaws: for any two rows of 64-bit words and any number the law's call answers true: of rows of one length, a power of two of at most 64, the cyclic and the negacyclic convolution don't hang on the order of the two, that with 1, 0, 0, .. is the row brought into the field, and that of a shifted row is the shifted one. Conditions: both rows read as rows. -/
import Derived.Test.YtjooodbjbidjiaaDoorBConvLaws
namespace Go.Proofs.YtjooodbjbidjiaaDoor.Pure
set_option linter.unusedVariables false
set_option linter.unusedSimpArgs false
open Go Go.RowKit Go.Proofs.YtjooodbjbidjiaaDoor.M Go.Proofs.YtjooodbjbidjiaaDoor.BConvLaws Go.Proofs.YtjooodbjbidjiaaDoor.PConvLaws Go.Proofs.YtjooodbjbidjiaaDoorW.PrintWords Go.Proofs.YtjooodbjbidjiaaDoorW.PrintLast Go.Proofs.YtjooodbjbidjiaaDoorW.PrintMore
theorem Same_refl (l : List Int) (h : l.length ≤ 1000) : Ev (fun n => abacistref04_Same.f n l l) true := by
  have := abacistref04_Same_ev l l (by omega)
  rw [decide_eq_true rfl] at this
  exact this
theorem laws_true (a b : List Int) (n : Int) : Ev (fun k => abacistlaw13_ConvLaws.j0 k a b n true) true := by
  refine Ev.step (fun k => abacistlaw13_ConvLaws.j0.eq_2 ..) ?_
  exact Ev.now _
theorem one_row {n : Nat} (hn : 0 < n) : (tab n (fun _ => (0 : F))).set 0 1 = tab n (fun j => if j = 0 then 1 else 0) := by
  have h := tab_set n (fun _ => (0 : F)) 0 1
  rw [un_one] at h
  exact h
theorem laws_good {a b : List Int} (ha : UL a) (hb : UL b) (m : Int) {k : Nat} (hk : k ≤ 6) (hl : a.length = 2 ^ k) (hl2 : b.length = 2 ^ k) : Ev (fun k => abacistlaw13_ConvLaws.j0 k a b m false) true := by
  have hp := two_pow_lt (n := k) (m := 6) hk
  have hp0 := Nat.two_pow_pos k
  have hs : rsd m a.length < a.length := rsd_lt (by omega)
  have hs2 : rsd m a.length < 2 ^ k := by omega
  refine Ev.step (fun k => abacistlaw13_ConvLaws.j0.eq_2 ..) ?_
  simp -implicitDefEqProofs only [Bool.false_eq_true, if_false]
  refine Ev.bind (conv_Cyclic_ev ha hb (by omega) hl hl2) ?_
  refine Ev.bind (conv_Cyclic_ev hb ha (by omega) hl2 hl) ?_
  refine Ev.bind (conv_Negacyclic_ev ha hb (by omega) hl hl2) ?_
  refine Ev.bind (conv_Negacyclic_ev hb ha (by omega) hl2 hl) ?_
  have d1 : (0 : Int) ≤ (a.length : Int) := by omega
  have d2 : a.length ≤ 35184372088832 := by omega
  have d3 : (0 : Int) < (a.length : Int) := by omega
  simp -implicitDefEqProofs only [d1, d2, if_true, Int.toNat_natCast, Option.bind_some, replicate_tab, tab_length, d3, show (0 : Int).toNat = 0 from rfl, one_row (show 0 < a.length by omega)]
  rw [hl]
  refine Ev.bind (conv_Cyclic_ev ha (UL_tab _ _) (by omega) hl (tab_length _ _)) ?_
  refine Ev.bind (conv_Shift_ev (by omega) (by omega) m) ?_
  refine Ev.bind (conv_Cyclic_ev (trw_UL ha _) hb (by omega) (by rw [trw_length, hl]) hl2) ?_
  simp -implicitDefEqProofs only [if_true, bne_self_eq_false]
  refine Ev.step (fun k => abacistlaw13_ConvLaws.j1.eq_2 ..) ?_
  simp -implicitDefEqProofs only [Bool.false_eq_true, if_false]
  have e1 : tab (2 ^ k) (wrp (2 ^ k) 1 (co b) (co a)) = tab (2 ^ k) (wrp (2 ^ k) 1 (co a) (co b)) := tab_congr (fun j hj => wrp_comm' hj 1 _ _)
  have e2 : tab (2 ^ k) (wrp (2 ^ k) (-1) (co b) (co a)) = tab (2 ^ k) (wrp (2 ^ k) (-1) (co a) (co b)) := tab_congr (fun j hj => wrp_comm' hj (-1) _ _)
  have e3 : tab (2 ^ k) (wrp (2 ^ k) 1 (co a) (co (tab (2 ^ k) (fun j => if j = 0 then 1 else 0)))) = tab (2 ^ k) (co a) := tab_congr (fun j hj => by
    rw [wrp_congr (f' := co a) (g' := fun i => if i = 0 then 1 else 0) hj (fun _ _ => rfl) (fun i hi => co_tab_lt hi)]
    exact wrp_one hj (co a))
  have e4 : tab (2 ^ k) (wrp (2 ^ k) 1 (co (trw a (rsd m a.length))) (co b)) = tab (2 ^ k) (trn (2 ^ k) (rsd m a.length) (wrp (2 ^ k) 1 (co a) (co b))) := tab_congr (fun j hj => by
    rw [wrp_congr (f' := trn (2 ^ k) (rsd m a.length) (co a)) (g' := co b) hj (fun i hi => by rw [co_trw hs (by omega), hl]) (fun _ _ => rfl)]
    exact wrp_trn (by omega) (co a) (co b) (rsd m a.length) hj)
  rw [e1, e2, e3, e4]
  refine Ev.bind (Same_refl _ (by rw [tab_length]; omega)) ?_
  simp -implicitDefEqProofs only [if_true]
  refine Ev.bind (Same_refl _ (by rw [tab_length]; omega)) ?_
  simp -implicitDefEqProofs only [if_true]
  refine Ev.bind (abacistref08_Canon_ev ha (by omega)) ?_
  rw [hl]
  refine Ev.bind (Same_refl _ (by rw [tab_length]; omega)) ?_
  simp -implicitDefEqProofs only [if_true]
  refine Ev.bind (abacistref13_Shift_ev (by omega) (by omega) m) ?_
  rw [hl]
  refine Ev.bind (Same_refl _ (by rw [trw_length]; omega)) ?_
  simp -implicitDefEqProofs only [if_true]
  refine Ev.bind (abacistref13_Shift_ev (l := tab (2 ^ k) (wrp (2 ^ k) 1 (co a) (co b))) (by rw [tab_length]; omega) (by rw [tab_length]; omega) m) ?_
  rw [hl] at hs2
  rw [tab_length, trw_tab _ hs2]
  refine Ev.bind (Same_refl _ (by rw [tab_length]; omega)) ?_
  exact Ev.now _
theorem ConvLaws : abacistlaw13_ConvLaws.Pure := by
  intro a b m _ _ ha _ _ hb _
  have ha := UL_of_wf ha
  have hb := UL_of_wf hb
  refine Ev.rounds ?_
  unfold abacistlaw13_ConvLaws.f
  refine Ev.bind abacistlaw13_awake_ev ?_
  simp -implicitDefEqProofs only [if_true]
  by_cases c1 : (a.length : Int) > 64
  · simp -implicitDefEqProofs only [c1, if_true]
    exact laws_true a b m
  simp -implicitDefEqProofs only [c1, if_false]
  by_cases hl : b.length = a.length
  · have e0 : (b.length : Int) = (a.length : Int) := by rw [hl]
    simp -implicitDefEqProofs only [e0, if_true]
    rcases fits_cases (a.length : Int) with ⟨j, hj, e⟩ | hn
    · have e2 : a.length = 2 ^ j := by omega
      have hj6 : j ≤ 6 := by
        rcases Nat.lt_or_ge 6 j with h | h
        · have := two_pow_lt (n := 7) (m := j) (by omega)
          omega
        · exact h
      rw [e]
      refine Ev.bind (abacistref03_Fits_yes hj) ?_
      rw [decide_eq_false (show ¬ ((j : Int) < 0) by omega)]
      exact laws_good ha hb m hj6 e2 (by omega)
    · refine Ev.bind (abacistref03_Fits_no hn) ?_
      rw [decide_eq_true (show (-1 : Int) < 0 by decide)]
      exact laws_true a b m
  · simp -implicitDefEqProofs only [show ¬ (b.length : Int) = (a.length : Int) by omega, if_false]
    exact laws_true a b m
end Go.Proofs.YtjooodbjbidjiaaDoor.Pure
