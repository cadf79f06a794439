/- PolyValues: for any two rows p, q and any word x the law's call answers true: of at most 30 words each, sums' and products' values are the values' sums and products, and a product's derivative goes by the rule of products. The rows' own lengths are bounded as the statement's kinds bound them. -/
import Derived.Test.YtdnmoefdonanbaaBPolyValues
namespace Go.Proofs.Ytdnmoefdonanbaa.Pure
set_option linter.unusedVariables false
set_option linter.unusedSimpArgs false
open Go Go.RowKit Go.Proofs.Ytdnmoefdonanbaa.M Go.Proofs.Ytdnmoefdonanbaa.BPolyValues Go.Proofs.Ytdnmoefdonanbaa.PPolyValues Go.Proofs.YtdnmoefdonanbaaW.PrintWords Go.Proofs.YtdnmoefdonanbaaW.PrintLast Go.Proofs.YtdnmoefdonanbaaW.PrintMore
theorem PolyValues : abacistlaw07_PolyValues.Pure := by
  intro p q x hp0 hp1 hp2 hq0 hq1 hq2 hx2
  have hp := UL_of_wf hp2
  have hq := UL_of_wf hq2
  have hx := U_of_wf hx2
  refine Ev.rounds (g := fun k => abacistlaw07_PolyValues.f k p q x) ?_
  unfold abacistlaw07_PolyValues.f
  refine Ev.bind abacistlaw07_awake_ev ?_
  simp -implicitDefEqProofs only [if_true]
  have triv : Ev (fun k => abacistlaw07_PolyValues.j0 k p q x true) true := by
    refine Ev.step (fun k => abacistlaw07_PolyValues.j0.eq_2 ..) ?_
    simp -implicitDefEqProofs only [if_true]
    exact Ev.now _
  by_cases c : (p.length : Int) > 30
  · simp -implicitDefEqProofs only [c, if_true]; exact triv
  · by_cases d : (q.length : Int) > 30
    · simp -implicitDefEqProofs only [c, if_false, decide_eq_true d]; exact triv
    · simp -implicitDefEqProofs only [c, if_false, decide_eq_false d]
      refine Ev.step (fun k => abacistlaw07_PolyValues.j0.eq_2 ..) ?_
      have l1 := tr_len_le (p.length - 1) (der (co p))
      have l2 := tr_len_le (q.length - 1) (der (co q))
      have l3 := tr_len_le (p.length + q.length) (cvl (co p) (co q))
      have l4 := tr_len_le (max p.length q.length) (fun i => co p i + co q i)
      have op := row_out p
      have oq := row_out q
      have odp : co (tr (p.length - 1) (der (co p))) = der (co p) := co_trF (der_out op)
      have odq : co (tr (q.length - 1) (der (co q))) = der (co q) := co_trF (der_out oq)
      have om : co (tr (p.length + q.length) (cvl (co p) (co q))) = cvl (co p) (co q) := co_trF (fun i hi => cvl_out op oq (by omega))
      refine Ev.bind (poly_Mul_ev hp hq (by omega) (by omega)) ?_
      refine Ev.bind (poly_Derive_ev hp (by omega)) ?_
      refine Ev.bind (poly_Mul_ev (UL_tr _ _) hq (by omega) (by omega)) ?_
      refine Ev.bind (poly_Derive_ev hq (by omega)) ?_
      refine Ev.bind (poly_Mul_ev hp (UL_tr _ _) (by omega) (by omega)) ?_
      simp -implicitDefEqProofs only [if_true]
      refine Ev.bind (poly_At_ev (UL_tr _ _) (by omega) hx) ?_
      refine Ev.bind (poly_At_ev hp (by omega) hx) ?_
      refine Ev.bind (poly_At_ev hq (by omega) hx) ?_
      refine Ev.bind (abacistref02_Mul_ev (un_lo _) (U_un _)) ?_
      rw [cv_un, cv_un, ev_tr, ev_mul op oq]
      simp -implicitDefEqProofs only [if_true]
      refine Ev.bind (poly_Add_two hp hq (by omega) (by omega)) ?_
      refine Ev.bind (poly_At_ev (UL_tr _ _) (by omega) hx) ?_
      refine Ev.bind (poly_At_ev hp (by omega) hx) ?_
      refine Ev.bind (poly_At_ev hq (by omega) hx) ?_
      rw [abacistref02_Add_eq (un_lo _) (un_lo _), cv_un, cv_un, ev_tr, ev_add,
        ev_ext (f := co p) (n := p.length) (m := max p.length q.length) _ (by omega) (fun i h1 _ => op i h1),
        ev_ext (f := co q) (n := q.length) (m := max p.length q.length) _ (by omega) (fun i h1 _ => oq i h1)]
      simp -implicitDefEqProofs only [Option.bind_some, if_true]
      refine Ev.bind (poly_Derive_ev (UL_tr _ _) (by omega)) ?_
      rw [om, odp, odq]
      generalize hD1 : tr (p.length - 1) (der (co p)) = D1 at *
      generalize hD2 : tr (q.length - 1) (der (co q)) = D2 at *
      generalize hM : tr (p.length + q.length) (cvl (co p) (co q)) = M at *
      have l5 := tr_len_le (D1.length + q.length) (cvl (der (co p)) (co q))
      have l6 := tr_len_le (p.length + D2.length) (cvl (co p) (der (co q)))
      refine Ev.bind (poly_Add_two (UL_tr _ _) (UL_tr _ _) (by omega) (by omega)) ?_
      have o1 : ∀ i, D1.length ≤ i → der (co p) i = 0 := fun i hi => by rw [← odp]; exact co_out hi
      have o2 : ∀ i, D2.length ≤ i → der (co q) i = 0 := fun i hi => by rw [← odq]; exact co_out hi
      have o3 : ∀ i, M.length ≤ i → cvl (co p) (co q) i = 0 := fun i hi => by rw [← om]; exact co_out hi
      have e : tr (max (tr (D1.length + q.length) (cvl (der (co p)) (co q))).length (tr (p.length + D2.length) (cvl (co p) (der (co q)))).length) (fun i => co (tr (D1.length + q.length) (cvl (der (co p)) (co q))) i + co (tr (p.length + D2.length) (cvl (co p) (der (co q)))) i) = tr (M.length - 1) (der (cvl (co p) (co q))) := by
        have c1 : co (tr (D1.length + q.length) (cvl (der (co p)) (co q))) = cvl (der (co p)) (co q) := co_trF (fun i hi => cvl_out o1 oq (by omega))
        have c2 : co (tr (p.length + D2.length) (cvl (co p) (der (co q)))) = cvl (co p) (der (co q)) := co_trF (fun i hi => cvl_out op o2 (by omega))
        refine tr_eq (fun i => by rw [c1, c2, der_cvl]) (fun i hi => ?_) (der_out o3)
        rw [co_out (l := tr (D1.length + q.length) _) (by omega), co_out (l := tr (p.length + D2.length) _) (by omega)]; exact kz
      rw [e]
      refine Ev.bind (abacistref04_Same_refl _ (by have := tr_len_le (M.length - 1) (der (cvl (co p) (co q))); omega)) ?_
      exact Ev.now _
where kz {R : Nat} [NeZero R] : (0 : Fin R) + 0 = 0 := by grind
end Go.Proofs.Ytdnmoefdonanbaa.Pure
