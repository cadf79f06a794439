/- PolyDivides: for any two rows p, q and any word a the law's call answers true: of at most 30 words each, quotient and rest of p by x - a and by q make p again, the rests are a value and a polynomial below q's degree, and a q that is 0 is refused. The rows' own lengths are bounded as the statement's kinds bound them. -/
import Derived.Test.YtlifdpaamcdmfaaBPolyDivides
namespace Go.Proofs.Ytlifdpaamcdmfaa.Pure
set_option linter.unusedVariables false
set_option linter.unusedSimpArgs false
open Go Go.RowKit Go.Proofs.Ytlifdpaamcdmfaa.M Go.Proofs.Ytlifdpaamcdmfaa.BPolyDivides Go.Proofs.Ytlifdpaamcdmfaa.PPolyDivides Go.Proofs.YtlifdpaamcdmfaaW.PrintWords Go.Proofs.YtlifdpaamcdmfaaW.PrintLast Go.Proofs.YtlifdpaamcdmfaaW.PrintMore
theorem PolyDivides_j1 {p q : List Int} (hp : UL p) (hq : UL q) (hlp : p.length ≤ 30) (hlq : q.length ≤ 30) : Ev (fun k => abacistlaw07_PolyDivides.j1 k p q false) true := by
  refine Ev.step (fun k => abacistlaw07_PolyDivides.j1.eq_2 ..) ?_
  by_cases hd : dg q.length (co q) = 0
  · refine Ev.bind (poly_Div_zero hq (by omega) (by omega) hd) ?_
    refine Ev.bind (abacistref07_Trim_ev hq (by omega)) ?_
    simp -implicitDefEqProofs only [tr_length, hd, show (((0 : Nat) : Int)) = 0 from rfl, if_true, List.length_nil, beq_self_eq_true]
    exact Ev.now _
  · obtain ⟨m, Q, R, hm, p1, p2, p3, hRl, p4⟩ := poly_Div_ev hp hq (by omega) (by omega) (by omega)
    refine Ev.bind p4 ?_
    refine Ev.bind (abacistref07_Trim_ev hq (by omega)) ?_
    have hdR : dg p.length R < dg q.length (co q) := by
      rcases Nat.lt_or_ge (dg q.length (co q) - 1) p.length with h | h
      · rw [dg_ext (f := R) (n := dg q.length (co q) - 1) (by omega) (fun i h1 _ => p3 i h1)]
        have := dg_le (dg q.length (co q) - 1) R; omega
      · have := dg_le p.length R; omega
    have c1 : ¬ ((dg q.length (co q) : Int)) = 0 := by omega
    have c2 : ((dg p.length R : Nat) : Int) < (dg q.length (co q) : Int) := by omega
    simp -implicitDefEqProofs only [tr_length, c1, c2, if_true, if_false]
    have hdl := dg_le p.length R
    have hml := dg_le m Q
    refine Ev.bind (abacistref07_Trim_ev (UL_tr _ _) (by rw [tr_length]; omega)) ?_
    rw [tr_length, tr_congr (n := dg p.length R) (f := co (tr p.length R)) (g := R) (fun i _ => co_tr hRl i), tr_tr]
    refine Ev.bind (abacistref04_Same_refl _ (by rw [tr_length]; omega)) ?_
    simp -implicitDefEqProofs only [if_true]
    refine Ev.bind (abacistref07_Trim_ev (UL_tr _ _) (by rw [tr_length]; omega)) ?_
    rw [tr_length, tr_congr (n := dg m Q) (f := co (tr m Q)) (g := Q) (fun i _ => co_tr p2 i), tr_tr]
    refine Ev.bind (abacistref04_Same_refl _ (by rw [tr_length]; omega)) ?_
    simp -implicitDefEqProofs only [if_true]
    refine Ev.bind (abacistref07_Mul_ev (UL_tr _ _) hq (by rw [tr_length]; omega)) ?_
    have eQ : co (tr m Q) = Q := by funext i; exact co_tr p2 i
    have eR : co (tr p.length R) = R := by funext i; exact co_tr hRl i
    rw [tr_length, eQ]
    have hcv : ∀ i, dg m Q + q.length ≤ i → cvl Q (co q) i = 0 := by
      intro i hi
      refine cvl_out (n := dg m Q) (m := q.length) (fun t ht => ?_) (fun t ht => co_out ht) (by omega)
      by_cases htm : t < m
      · exact dg_out ht htm
      · exact p2 t (by omega)
    refine Ev.bind (abacistref07_Add_ev (UL_tr _ _) (UL_tr _ _) (by rw [tr_length]; have := dg_le (dg m Q + q.length) (cvl Q (co q)); omega) (by rw [tr_length]; omega)) ?_
    refine Ev.bind (abacistref07_Trim_ev hp (by omega)) ?_
    have eC : co (tr (dg m Q + q.length) (cvl Q (co q))) = cvl Q (co q) := by funext i; exact co_tr hcv i
    have e : tr (max (tr (dg m Q + q.length) (cvl Q (co q))).length (tr p.length R).length) (fun i => co (tr (dg m Q + q.length) (cvl Q (co q))) i + co (tr p.length R) i) = tr p.length (co p) := by
      refine tr_eq (fun i => by rw [eC, eR, ← p1 i]) (fun i hi => ?_) (fun i hi => co_out hi)
      rw [co_out (l := tr (dg m Q + q.length) (cvl Q (co q))) (by omega), co_out (l := tr p.length R) (by omega)]; exact kz
    rw [e]
    refine Ev.bind (abacistref04_Same_refl _ (by rw [tr_length]; have := dg_le p.length (co p); omega)) ?_
    exact Ev.now _
where
  kz {R : Nat} [NeZero R] : (0 : Fin R) + 0 = 0 := by grind
theorem PolyDivides : abacistlaw07_PolyDivides.Pure := by
  intro p q a hp0 hp1 hp2 hq0 hq1 hq2 ha2
  have hp := UL_of_wf hp2
  have hq := UL_of_wf hq2
  have ha := U_of_wf ha2
  refine Ev.rounds (g := fun k => abacistlaw07_PolyDivides.f k p q a) ?_
  unfold abacistlaw07_PolyDivides.f
  refine Ev.bind abacistlaw07_awake_ev ?_
  simp -implicitDefEqProofs only [if_true]
  have triv : Ev (fun k => abacistlaw07_PolyDivides.j0 k p q a true) true := by
    refine Ev.step (fun k => abacistlaw07_PolyDivides.j0.eq_2 ..) ?_
    simp -implicitDefEqProofs only [if_true]
    exact Ev.now _
  by_cases c : (p.length : Int) > 30
  · simp -implicitDefEqProofs only [c, if_true]; exact triv
  · by_cases d : (q.length : Int) > 30
    · simp -implicitDefEqProofs only [c, if_false, decide_eq_true d]; exact triv
    · simp -implicitDefEqProofs only [c, if_false, decide_eq_false d]
      refine Ev.step (fun k => abacistlaw07_PolyDivides.j0.eq_2 ..) ?_
      refine Ev.bind (poly_DivLinear_ev hp (by omega) ha) ?_
      have e3 : (0 : F) - cv a = - cv a := kn _
      rw [abacistref02_Sub_eq (Int.le_refl 0) ha.1, cv_zero, e3]
      simp -implicitDefEqProofs only [Option.bind_some]
      refine Ev.bind (abacistref07_At_ev hp (by omega) ha) ?_
      simp -implicitDefEqProofs only [if_true]
      have hq1 : ∀ i, p.length - 1 ≤ i → hn p.length (co p) (cv a) (i + 1) = 0 := fun i hi => hn_out _ _ (by omega)
      have hd1 := dg_le (p.length - 1) (fun i => hn p.length (co p) (cv a) (i + 1))
      refine Ev.bind (abacistref07_Mul_ev (UL_tr _ _) (UL_cons (U_un _) (UL_cons U_one UL_nil)) (by rw [tr_length]; simp only [List.length_cons, List.length_nil]; omega)) ?_
      have eQ : co (tr (p.length - 1) (fun i => hn p.length (co p) (cv a) (i + 1))) = fun i => hn p.length (co p) (cv a) (i + 1) := by funext i; exact co_tr hq1 i
      rw [tr_length, eQ, co_lin]
      simp only [List.length_cons, List.length_nil]
      have hcv : ∀ i, dg (p.length - 1) (fun i => hn p.length (co p) (cv a) (i + 1)) + (0 + 1 + 1) ≤ i → cvl (fun i => hn p.length (co p) (cv a) (i + 1)) (lin (cv a)) i = 0 := by
        intro i hi
        refine cvl_out (n := dg (p.length - 1) (fun i => hn p.length (co p) (cv a) (i + 1))) (m := 2) (fun t ht => ?_) (fun t ht => lin_out _ ht) (by omega)
        by_cases htm : t < p.length - 1
        · exact dg_out (f := fun i => hn p.length (co p) (cv a) (i + 1)) ht htm
        · exact hq1 t (by omega)
      have hd2 := dg_le (dg (p.length - 1) (fun i => hn p.length (co p) (cv a) (i + 1)) + (0 + 1 + 1)) (cvl (fun i => hn p.length (co p) (cv a) (i + 1)) (lin (cv a)))
      refine Ev.bind (abacistref07_Add_ev (UL_tr _ _) (UL_cons (U_un _) UL_nil) (by rw [tr_length]; omega) (by simp only [List.length_cons, List.length_nil]; omega)) ?_
      have eC : co (tr (dg (p.length - 1) (fun i => hn p.length (co p) (cv a) (i + 1)) + (0 + 1 + 1)) (cvl (fun i => hn p.length (co p) (cv a) (i + 1)) (lin (cv a)))) = cvl (fun i => hn p.length (co p) (cv a) (i + 1)) (lin (cv a)) := by funext i; exact co_tr hcv i
      have e1 : ∀ i, co [un (ev p.length (co p) (cv a))] i = if i = 0 then ev p.length (co p) (cv a) else 0 := by
        intro i
        match i with
        | 0 => exact cv_un _
        | i + 1 => rw [if_neg (by omega)]; exact co_out (Nat.le_add_left 1 i)
      refine Ev.bind (abacistref07_Trim_ev hp (by omega)) ?_
      generalize hT : tr (dg (p.length - 1) (fun i => hn p.length (co p) (cv a) (i + 1)) + (0 + 1 + 1)) (cvl (fun i => hn p.length (co p) (cv a) (i + 1)) (lin (cv a))) = T at *
      have e : tr (max T.length [un (ev p.length (co p) (cv a))].length) (fun i => co T i + co [un (ev p.length (co p) (cv a))] i) = tr p.length (co p) := by
        refine tr_eq (fun i => by rw [eC, e1, lin_divide (fun i hi => co_out hi)]) (fun i hi => ?_) (fun i hi => co_out hi)
        rw [co_out (l := T) (by omega), co_out (l := [un (ev p.length (co p) (cv a))]) (by omega)]; exact PolyDivides_j1.kz
      rw [e]
      refine Ev.bind (abacistref04_Same_refl _ (by rw [tr_length]; have := dg_le p.length (co p); omega)) ?_
      exact PolyDivides_j1 hp hq (by omega) (by omega)
where kn {R : Nat} [NeZero R] (a : Fin R) : 0 - a = -a := by grind
end Go.Proofs.Ytlifdpaamcdmfaa.Pure
