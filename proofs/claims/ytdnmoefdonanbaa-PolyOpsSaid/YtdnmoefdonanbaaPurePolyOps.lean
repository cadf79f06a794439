/- PolyOps: for any two rows p, q and any word x the law's call answers true: of at most 30 words each, values, sums, differences, multiples, products and derivatives are the reference's. The rows' own lengths are bounded as the statement's kinds bound them. -/
import Derived.Test.YtdnmoefdonanbaaBPolyOps
namespace Go.Proofs.Ytdnmoefdonanbaa.Pure
set_option linter.unusedVariables false
set_option linter.unusedSimpArgs false
open Go Go.RowKit Go.Proofs.Ytdnmoefdonanbaa.M Go.Proofs.Ytdnmoefdonanbaa.BPolyOps Go.Proofs.Ytdnmoefdonanbaa.PPolyOps Go.Proofs.YtdnmoefdonanbaaW.PrintWords Go.Proofs.YtdnmoefdonanbaaW.PrintLast Go.Proofs.YtdnmoefdonanbaaW.PrintMore
theorem add_self_tr {a b : List Int} : tr (max (tr (max a.length b.length) (fun i => co a i + co b i)).length a.length) (fun i => co (tr (max a.length b.length) (fun i => co a i + co b i)) i + co a i) = tr (max (max a.length b.length) a.length) (fun i => co a i + co b i + co a i) := by
  have hl := tr_len_le (max a.length b.length) (fun i => co a i + co b i)
  have hc : co (tr (max a.length b.length) (fun i => co a i + co b i)) = fun i => co a i + co b i := co_trF (fun i hi => by rw [co_out (l := a) (by omega), co_out (l := b) (by omega)]; exact kz)
  refine tr_eq (fun i => by rw [hc]) (fun i hi => ?_) (fun i hi => ?_)
  · rw [co_out (l := tr (max a.length b.length) _) (by omega), co_out (l := a) (by omega)]; exact kz
  · rw [co_out (l := a) (by omega), co_out (l := b) (by omega)]; exact kz3
where
  kz {R : Nat} [NeZero R] : (0 : Fin R) + 0 = 0 := by grind
  kz3 {R : Nat} [NeZero R] : (0 : Fin R) + 0 + 0 = 0 := by grind
theorem PolyOps_j1 {p q : List Int} {x : Int} (hp : UL p) (hq : UL q) (hx : U x) (hlp : p.length ≤ 30) (hlq : q.length ≤ 30) : Ev (fun k => abacistlaw07_PolyOps.j1 k p q x false) true := by
  refine Ev.step (fun k => abacistlaw07_PolyOps.j1.eq_2 ..) ?_
  refine Ev.bind (abacistref07_Scale_ev hq (by omega) ⟨by omega, by omega⟩) ?_
  have l1 := tr_len_le q.length (fun i => co q i * cv 18446744069414584320)
  have hc : co (tr q.length (fun i => co q i * cv 18446744069414584320)) = fun i => co q i * cv 18446744069414584320 := co_trF (fun i hi => by rw [co_out hi]; exact k0 _)
  refine Ev.bind (abacistref07_Add_ev hp (UL_tr _ _) (by omega) (by omega)) ?_
  have e : tr (max p.length (tr q.length (fun i => co q i * cv 18446744069414584320)).length) (fun i => co p i + co (tr q.length (fun i => co q i * cv 18446744069414584320)) i) = tr (max p.length q.length) (fun i => co p i - co q i) := by
    refine tr_eq (fun i => by rw [hc, cv_minus_one]; exact k1 _ _) (fun i hi => ?_) (fun i hi => by rw [co_out (l := p) (by omega), co_out (l := q) (by omega)]; exact sub_self' _)
    rw [co_out (l := p) (by omega), co_out (l := tr q.length _) (by omega)]; exact add_self_tr.kz
  rw [e]
  have l2 := tr_len_le (max p.length q.length) (fun i => co p i + co q i)
  have l3 := tr_len_le (max p.length q.length) (fun i => co p i - co q i)
  refine Ev.bind (poly_Add_two hp hq (by omega) (by omega)) ?_
  refine Ev.bind (abacistref07_Add_ev hp hq (by omega) (by omega)) ?_
  refine Ev.bind (abacistref04_Same_refl _ (by omega)) ?_
  simp -implicitDefEqProofs only [if_true]
  refine Ev.bind (poly_Sub_ev hp hq (by omega) (by omega)) ?_
  refine Ev.bind (abacistref04_Same_refl _ (by omega)) ?_
  simp -implicitDefEqProofs only [if_true]
  refine Ev.bind (poly_Scale_ev hp (by omega) hx) ?_
  refine Ev.bind (abacistref07_Scale_ev hp (by omega) hx) ?_
  refine Ev.bind (abacistref04_Same_refl _ (by have := tr_len_le p.length (fun i => co p i * cv x); omega)) ?_
  simp -implicitDefEqProofs only [if_true]
  refine Ev.bind (poly_Derive_ev hp (by omega)) ?_
  refine Ev.bind (abacistref07_Derive_ev hp (by omega)) ?_
  refine Ev.bind (abacistref04_Same_refl _ (by have := tr_len_le (p.length - 1) (der (co p)); omega)) ?_
  simp -implicitDefEqProofs only [if_true]
  refine Ev.bind (poly_Add_ev (ls := []) (by decide) (by intro l hl; cases hl) (by intro l hl; cases hl)) ?_
  have e0 : tr (lng [] ([] : List (List Int)).length) (sumc [] ([] : List (List Int)).length) = [] := rfl
  rw [e0]
  have d6 : (([] : List Int).length : Int) = 0 := rfl
  simp -implicitDefEqProofs only [d6, if_true]
  refine Ev.bind (poly_Add_ev (ls := [p, q, p]) (by simp only [List.length_cons, List.length_nil]; omega) (by intro l hl; simp only [List.mem_cons, List.not_mem_nil, or_false] at hl; rcases hl with rfl | rfl | rfl <;> assumption) (by intro l hl; simp only [List.mem_cons, List.not_mem_nil, or_false] at hl; rcases hl with rfl | rfl | rfl <;> omega)) ?_
  refine Ev.bind (abacistref07_Add_ev hp hq (by omega) (by omega)) ?_
  refine Ev.bind (abacistref07_Add_ev (UL_tr _ _) hp (by omega) (by omega)) ?_
  have e3 : tr (lng [p, q, p] [p, q, p].length) (sumc [p, q, p] [p, q, p].length) = tr (max (max p.length q.length) p.length) (fun i => co p i + co q i + co p i) := by
    have a1 : lng [p, q, p] [p, q, p].length = max (max p.length q.length) p.length := by
      show max (max (max 0 p.length) q.length) p.length = _
      omega
    have a2 : sumc [p, q, p] [p, q, p].length = fun i => co p i + co q i + co p i := by
      funext i
      show 0 + co p i + co q i + co p i = _
      exact k3 _ _
    rw [a1, a2]
  rw [add_self_tr, e3]
  refine Ev.bind (abacistref04_Same_refl _ (by have := tr_len_le (max (max p.length q.length) p.length) (fun i => co p i + co q i + co p i); omega)) ?_
  exact Ev.now _
where
  k0 {R : Nat} [NeZero R] (a : Fin R) : 0 * a = 0 := by grind
  k1 {R : Nat} [NeZero R] (a b : Fin R) : a + b * -1 = a - b := by grind
  k3 {R : Nat} [NeZero R] (a b : Fin R) : 0 + a + b + a = a + b + a := by grind
theorem PolyOps : abacistlaw07_PolyOps.Pure := by
  intro p q x hp0 hp1 hp2 hq0 hq1 hq2 hx2
  have hp := UL_of_wf hp2
  have hq := UL_of_wf hq2
  have hx := U_of_wf hx2
  refine Ev.rounds (g := fun k => abacistlaw07_PolyOps.f k p q x) ?_
  unfold abacistlaw07_PolyOps.f
  refine Ev.bind abacistlaw07_awake_ev ?_
  simp -implicitDefEqProofs only [if_true]
  have triv : Ev (fun k => abacistlaw07_PolyOps.j0 k p q x true) true := by
    refine Ev.step (fun k => abacistlaw07_PolyOps.j0.eq_2 ..) ?_
    simp -implicitDefEqProofs only [if_true]
    exact Ev.now _
  by_cases c : (p.length : Int) > 30
  · simp -implicitDefEqProofs only [c, if_true]; exact triv
  · by_cases d : (q.length : Int) > 30
    · simp -implicitDefEqProofs only [c, if_false, decide_eq_true d]; exact triv
    · simp -implicitDefEqProofs only [c, if_false, decide_eq_false d]
      refine Ev.step (fun k => abacistlaw07_PolyOps.j0.eq_2 ..) ?_
      have l1 := tr_len_le (p.length + q.length) (cvl (co p) (co q))
      have l2 := tr_len_le p.length (co p)
      refine Ev.bind (poly_Mul_ev hp hq (by omega) (by omega)) ?_
      simp -implicitDefEqProofs only [if_true]
      refine Ev.bind (abacistref07_Mul_ev hp hq (by omega)) ?_
      refine Ev.bind (abacistref04_Same_refl _ (by omega)) ?_
      simp -implicitDefEqProofs only [if_true]
      refine Ev.bind (poly_Trim_ev hp (by omega)) ?_
      refine Ev.bind (abacistref07_Trim_ev hp (by omega)) ?_
      refine Ev.bind (abacistref04_Same_refl _ (by omega)) ?_
      simp -implicitDefEqProofs only [if_true]
      refine Ev.bind (poly_Degree_ev hp (by omega)) ?_
      refine Ev.bind (abacistref07_Trim_ev hp (by omega)) ?_
      have e : (dg p.length (co p) : Int) - 1 = wrap64 (((tr p.length (co p)).length : Int) - 1) := by
        rw [tr_length] at l2
        rw [tr_length, down_next (show dg p.length (co p) < 9223372036854775807 by omega)]
      simp -implicitDefEqProofs only [e, if_true]
      refine Ev.bind (poly_At_ev hp (by omega) hx) ?_
      refine Ev.bind (abacistref07_At_ev hp (by omega) hx) ?_
      rw [bne_self_eq_false]
      exact PolyOps_j1 hp hq hx (by omega) (by omega)
end Go.Proofs.Ytdnmoefdonanbaa.Pure
