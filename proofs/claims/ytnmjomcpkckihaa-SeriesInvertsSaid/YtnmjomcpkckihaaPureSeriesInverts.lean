/- SeriesInverts: for any two rows of 64-bit words and any number the law's call answers true: of rows of at most 30 words and a number of at most 30, or beyond what may be: the inverse has as many words as asked, its product with its series begins as 1 does, the quotient's product with what it was divided by begins as what there was; a series without a first word, and a number that may not be, are refused by name. Conditions: both rows read as rows. -/
import Derived.Test.YtnmjomcpkckihaaBSeriesInverts
namespace Go.Proofs.Ytnmjomcpkckihaa.Pure
set_option linter.unusedVariables false
set_option linter.unusedSimpArgs false
open Go Go.RowKit Go.Proofs.Ytnmjomcpkckihaa.M Go.Proofs.Ytnmjomcpkckihaa.BSeriesInverts Go.Proofs.Ytnmjomcpkckihaa.PSeriesInverts Go.Proofs.YtnmjomcpkckihaaW.PrintWords Go.Proofs.YtnmjomcpkckihaaW.PrintLast Go.Proofs.YtnmjomcpkckihaaW.PrintMore
theorem Same_refl (l : List Int) (h : l.length ≤ 100000) : Ev (fun n => abacistref04_Same.f n l l) true := by
  have := abacistref04_Same_ev l l (by omega)
  rw [decide_eq_true rfl] at this
  exact this
theorem inverts_arg {p q : List Int} {n : Int} (x y : List Int) : Ev (fun k => abacistlaw30_SeriesInverts.j0 k p q n x 1 y 1 true) true := by
  refine Ev.step (fun k => abacistlaw30_SeriesInverts.j0.eq_2 ..) ?_
  simp -implicitDefEqProofs only [if_true]
  exact Ev.now _
theorem inverts_zero {p q : List Int} (hq : UL q) (h0 : co q 0 = 0) {n : Int} : Ev (fun k => abacistlaw30_SeriesInverts.j0 k p q n [] 13 [] 13 false) true := by
  refine Ev.step (fun k => abacistlaw30_SeriesInverts.j0.eq_2 ..) ?_
  simp -implicitDefEqProofs only [Bool.false_eq_true, if_false, abacistlaw30_first_eq hq, h0, un_zero, Option.bind_some, if_true, List.length_nil, Int.natCast_zero]
  exact Ev.now _
theorem inverts_good {p q : List Int} (hp : UL p) (hq : UL q) (hl : p.length ≤ 30) (hl2 : q.length ≤ 30) {n : Nat} (hn : n ≤ 30) (h0 : co q 0 ≠ 0) {S T : Nat → F} (hS : ∀ i, i < n → cvl (co q) S i = pone i) (hT : ∀ i, i < n → cvl (co q) T i = pone i) :
    Ev (fun k => abacistlaw30_SeriesInverts.j0 k p q (n : Int) (tab n S) 0 (tab n (cvl (co p) T)) 0 false) true := by
  have c : ¬ un (co q 0) = 0 := fun h => h0 (un_eq_zero.1 h)
  refine Ev.step (fun k => abacistlaw30_SeriesInverts.j0.eq_2 ..) ?_
  simp -implicitDefEqProofs only [Bool.false_eq_true, if_false, abacistlaw30_first_eq hq, c, Option.bind_some, if_true, tab_length]
  have cutTab : ∀ f : Nat → F, Ev (fun k => abacistlaw30_cut.f k (tab n f) (n : Int)) (tab n f) := fun f => by
    have e := abacistlaw30_cut_ev (l := tab n f) (UL_tab _ _) (n := n) (by omega) (by rw [tab_length]; omega)
    have q0 : tab n (co (tab n f)) = tab n f := tab_congr (fun i hi => co_tab_lt hi)
    rw [q0] at e
    exact e
  refine Ev.bind (cutTab S) ?_
  refine Ev.bind (Same_refl _ (by rw [tab_length]; omega)) ?_
  simp -implicitDefEqProofs only [if_true]
  refine Ev.bind (cutTab _) ?_
  refine Ev.bind (Same_refl _ (by rw [tab_length]; omega)) ?_
  simp -implicitDefEqProofs only [if_true]
  have lt : ∀ f : Nat → F, (tab n f).length ≤ 30 := fun f => by rw [tab_length]; exact hn
  refine Ev.bind (abacistref07_Mul_ev (a := tab n S) (b := q) (UL_tab _ _) hq (by have := lt S; omega)) ?_
  have e1 := abacistlaw30_cut_ev (l := pmul (tab n S) q) (UL_tr _ _) (n := n) (by omega) (by have := pmul_length (tab n S) q; have := lt S; omega)
  have q1 : tab n (cvl (co (tab n S)) (co q)) = tab n pone := tab_congr (fun i hi => by
    rw [cvl_upto (n := n) (f' := S) (g' := co q) (fun j hj => co_tab_lt hj) (fun _ _ => rfl) hi, cvl_comm]
    exact hS i hi)
  rw [(pmul_any _ _).co, q1] at e1
  refine Ev.bind e1 ?_
  have e2 := abacistlaw30_cut_ev (l := [1]) (UL_cons U_one UL_nil) (n := n) (by omega) (by simp)
  rw [pone_row.co] at e2
  refine Ev.bind e2 ?_
  refine Ev.bind (Same_refl _ (by rw [tab_length]; omega)) ?_
  simp -implicitDefEqProofs only [if_true]
  refine Ev.bind (abacistref07_Mul_ev (a := tab n (cvl (co p) T)) (b := q) (UL_tab _ _) hq (by have := lt (cvl (co p) T); omega)) ?_
  have e3 := abacistlaw30_cut_ev (l := pmul (tab n (cvl (co p) T)) q) (UL_tr _ _) (n := n) (by omega) (by have := pmul_length (tab n (cvl (co p) T)) q; have := lt (cvl (co p) T); omega)
  have q3 : tab n (cvl (co (tab n (cvl (co p) T))) (co q)) = tab n (co p) := tab_congr (fun i hi => by
    rw [cvl_upto (n := n) (f' := cvl (co p) T) (g' := co q) (fun j hj => co_tab_lt hj) (fun _ _ => rfl) hi, cvl_assoc, cvl_upto (n := n) (f' := co p) (g' := pone) (fun _ _ => rfl) (fun j hj => by rw [cvl_comm]; exact hT j hj) hi]
    exact cvl_pone _ i)
  rw [(pmul_any _ _).co, q3] at e3
  refine Ev.bind e3 ?_
  refine Ev.bind (abacistlaw30_cut_ev hp (n := n) (by omega) (by omega)) ?_
  refine Ev.bind (Same_refl _ (by rw [tab_length]; omega)) ?_
  exact Ev.now _
theorem SeriesInverts : abacistlaw30_SeriesInverts.Pure := by
  intro p q n _ _ hp _ _ hq _
  have hp := UL_of_wf hp
  have hq := UL_of_wf hq
  refine Ev.rounds ?_
  unfold abacistlaw30_SeriesInverts.f
  refine Ev.bind abacistlaw30_awake_ev ?_
  simp -implicitDefEqProofs only [if_true, abacistlaw30_most_eq, Option.bind_some]
  by_cases c : p.length ≤ 30 ∧ q.length ≤ 30 ∧ (n ≤ 30 ∨ n > 65536)
  · simp -implicitDefEqProofs only [decide_eq_true c, if_true]
    obtain ⟨hl, hl2, hn⟩ := c
    by_cases c1 : n < 0
    · refine Ev.bind (series_Inv_arg (.inl c1)) ?_
      refine Ev.bind (series_Div_arg (.inl c1)) ?_
      simp -implicitDefEqProofs only [c1, if_true]
      exact inverts_arg _ _
    by_cases c2 : n > 65536
    · refine Ev.bind (series_Inv_arg (.inr c2)) ?_
      refine Ev.bind (series_Div_arg (.inr c2)) ?_
      simp -implicitDefEqProofs only [c1, if_false, decide_eq_true c2]
      exact inverts_arg _ _
    obtain ⟨m, rfl⟩ := Int.eq_ofNat_of_zero_le (show 0 ≤ n by omega)
    by_cases h0 : co q 0 = 0
    · refine Ev.bind (series_Inv_zero hq (by omega) (by omega) (by omega) h0) ?_
      refine Ev.bind (series_Div_zero hq (by omega) (by omega) (by omega) (by omega) h0) ?_
      simp -implicitDefEqProofs only [c1, if_false, decide_eq_false c2]
      exact inverts_zero hq h0
    · obtain ⟨S, hS, hE⟩ := series_Inv_ev hq (by omega) (n := m) (by omega) h0
      obtain ⟨T, hT, hE2⟩ := series_Div_ev hp hq (by omega) (by omega) (n := m) (by omega) h0
      refine Ev.bind hE ?_
      refine Ev.bind hE2 ?_
      simp -implicitDefEqProofs only [c1, if_false, decide_eq_false c2]
      exact inverts_good hp hq hl hl2 (by omega) h0 hS hT
  · simp -implicitDefEqProofs only [decide_eq_false c, Bool.false_eq_true, if_false]
    exact Ev.now _
end Go.Proofs.Ytnmjomcpkckihaa.Pure
