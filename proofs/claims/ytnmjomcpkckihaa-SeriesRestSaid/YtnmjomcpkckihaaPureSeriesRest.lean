/- SeriesRest: for any two rows of 64-bit words the law's call answers true: of rows of at most 30 words series.DivRest gives the quotient and the rest of p by q, both trimmed, the rest shorter than q; a q without a word but 0 is refused by name. Conditions: both rows read as rows. -/
import Derived.Test.YtnmjomcpkckihaaBSeriesRest
namespace Go.Proofs.Ytnmjomcpkckihaa.Pure
set_option linter.unusedVariables false
set_option linter.unusedSimpArgs false
open Go Go.RowKit Go.Proofs.Ytnmjomcpkckihaa.M Go.Proofs.Ytnmjomcpkckihaa.BSeriesRest Go.Proofs.Ytnmjomcpkckihaa.PSeriesRest Go.Proofs.YtnmjomcpkckihaaW.PrintWords Go.Proofs.YtnmjomcpkckihaaW.PrintLast Go.Proofs.YtnmjomcpkckihaaW.PrintMore
theorem Same_refl (l : List Int) (h : l.length ≤ 100000) : Ev (fun n => abacistref04_Same.f n l l) true := by
  have := abacistref04_Same_ev l l (by omega)
  rw [decide_eq_true rfl] at this
  exact this
theorem row_UL {l : List Int} {f : Nat → F} (h : IsRow l f) : UL l := by
  obtain ⟨n, _, rfl⟩ := h
  exact UL_tr _ _
theorem row_trim {l : List Int} {f : Nat → F} (h : IsRow l f) (hl : l.length < 4294967296) : Ev (fun k => abacistref07_Trim.f k l) l := by
  have t := abacistref07_Trim_ev (row_UL h) hl
  rw [IsRow.uniq (IsRow.of (row_out l)) (h.congr (fun i => by rw [h.co]))] at t
  exact t
theorem rest_good {p q quo rest : List Int} {U : Nat → F} (hp : UL p) (hq : UL q) (hl : p.length ≤ 30) (hl2 : q.length ≤ 30) (hQ : IsRow quo U) (lQ : quo.length ≤ 31)
    (hR : IsRow rest (fun i => co p i - cvl U (co q) i)) (hlt : rest.length < dg q.length (co q)) (hE : Ev (fun k => series_DivRest.f k p q) (quo, rest, 0)) :
    Ev (fun k => abacistlaw30_SeriesRest.j0 k p q false) true := by
  have dq := dg_le q.length (co q)
  refine Ev.step (fun k => abacistlaw30_SeriesRest.j0.eq_2 ..) ?_
  simp -implicitDefEqProofs only [Bool.false_eq_true, if_false]
  refine Ev.bind hE ?_
  refine Ev.bind (abacistref07_Trim_ev hq (by omega)) ?_
  simp -implicitDefEqProofs only [tr_length, if_neg (show ¬ (dg q.length (co q) : Int) = 0 by omega), eq_self, if_true, if_pos (show (rest.length : Int) < (dg q.length (co q) : Int) by omega)]
  refine Ev.bind (row_trim hQ (by omega)) ?_
  refine Ev.bind (Same_refl _ (by omega)) ?_
  simp -implicitDefEqProofs only [if_true]
  refine Ev.bind (row_trim hR (by omega)) ?_
  refine Ev.bind (Same_refl _ (by omega)) ?_
  simp -implicitDefEqProofs only [if_true]
  refine Ev.bind (abacistref07_Mul_ev (row_UL hQ) hq (by omega)) ?_
  have lM := tr_len_le (quo.length + q.length) (cvl (co quo) (co q))
  refine Ev.bind (abacistref07_Add_ev (UL_tr _ _) (row_UL hR) (by omega) (by omega)) ?_
  refine Ev.bind (abacistref07_Trim_ev hp (by omega)) ?_
  have hM : IsRow (tr (quo.length + q.length) (cvl (co quo) (co q))) (cvl U (co q)) := by
    have h := pmul_any quo q
    rw [hQ.co] at h
    rw [hQ.co]
    rw [show tr (quo.length + q.length) (cvl U (co q)) = pmul quo q by unfold pmul; rw [hQ.co]]
    exact h
  have hA := IsRow.uniq (x := tr (max (tr (quo.length + q.length) (cvl (co quo) (co q))).length rest.length) (fun i => co (tr (quo.length + q.length) (cvl (co quo) (co q))) i + co rest i)) (y := tr p.length (co p)) (f := co p) ((IsRow.of (fun i hi => by
    rw [co_out (by omega), co_out (by omega)]; exact k0 _)).congr (fun i => by
    rw [hM.co, hR.co]; exact k1 _ _)) (IsRow.of (row_out p))
  rw [hA]
  have lp := tr_len_le p.length (co p)
  refine Ev.bind (Same_refl _ (by omega)) ?_
  exact Ev.now _
where
  k0 (R : Nat) [NeZero R] : (0 : Fin R) + 0 = 0 := by grind
  k1 {R : Nat} [NeZero R] (a b : Fin R) : b + (a - b) = a := by grind
theorem SeriesRest : abacistlaw30_SeriesRest.Pure := by
  intro p q _ _ hp _ _ hq
  have hp := UL_of_wf hp
  have hq := UL_of_wf hq
  refine Ev.rounds ?_
  unfold abacistlaw30_SeriesRest.f
  refine Ev.bind abacistlaw30_awake_ev ?_
  simp -implicitDefEqProofs only [if_true]
  have arg : Ev (fun k => abacistlaw30_SeriesRest.j0 k p q true) true := by
    refine Ev.step (fun k => abacistlaw30_SeriesRest.j0.eq_2 ..) ?_
    simp -implicitDefEqProofs only [if_true]
    exact Ev.now _
  by_cases c1 : (p.length : Int) > 30
  · simp -implicitDefEqProofs only [c1, if_true]
    exact arg
  by_cases c2 : (q.length : Int) > 30
  · simp -implicitDefEqProofs only [c1, if_false, decide_eq_true c2]
    exact arg
  simp -implicitDefEqProofs only [c1, if_false, decide_eq_false c2]
  have dp := dg_le p.length (co p)
  have dq := dg_le q.length (co q)
  by_cases c3 : dg q.length (co q) = 0
  · refine Ev.step (fun k => abacistlaw30_SeriesRest.j0.eq_2 ..) ?_
    simp -implicitDefEqProofs only [Bool.false_eq_true, if_false]
    refine Ev.bind (divrest_zero hp hq (by omega) (by omega) c3) ?_
    refine Ev.bind (abacistref07_Trim_ev hq (by omega)) ?_
    simp -implicitDefEqProofs only [tr_length, c3, List.length_nil, Int.natCast_zero, eq_self, if_true]
    exact Ev.now _
  by_cases c4 : dg p.length (co p) < dg q.length (co q)
  · have hE := divrest_short hp hq (by omega) (by omega) c4
    refine rest_good (quo := []) (U := fun _ => 0) hp hq (by omega) (by omega) ⟨0, fun _ _ => rfl, rfl⟩ (by simp) (IsRow.congr (IsRow.of (row_out p)) (fun i => ?_)) ?_ hE
    · rw [show cvl (fun _ => 0) (co q) i = 0 from by rw [← refmul_sum (fun _ => 0) (co q) (n := 0) (fun _ _ => rfl)]; rfl]
      exact k0 _
    · rw [tr_length]; exact c4
  · obtain ⟨U, oU, hU, rest, hR, hE⟩ := divrest_ev hp hq (by omega) (by omega) (by omega) (by omega)
    have lQ := tr_len_le (dg p.length (co p) - dg q.length (co q) + 1) U
    refine rest_good hp hq (by omega) (by omega) (IsRow.of oU) (by omega) hR ?_ hE
    have h := IsRow.uniq hR (IsRow.of (n := dg q.length (co q) - 1) (fun i hi => by rw [hU i hi]; exact k1 _))
    have lR := tr_len_le (dg q.length (co q) - 1) (fun i => co p i - cvl U (co q) i)
    rw [h]; omega
where
  k0 {R : Nat} [NeZero R] (x : Fin R) : x = x - 0 := by grind
  k1 {R : Nat} [NeZero R] (x : Fin R) : x - x = 0 := by grind
end Go.Proofs.Ytnmjomcpkckihaa.Pure
