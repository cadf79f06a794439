/- TreeValues: for any row of points and any row of coefficients the law's call answers true: of at most 20 points and at most 30 words, the tree's values of the polynomial are its values at the points, one by one. Conditions: both rows read as rows. -/
import Derived.Test.YtkgakohgbbapaaaBTreeValues
namespace Go.Proofs.Ytkgakohgbbapaaa.Pure
set_option linter.unusedVariables false
set_option linter.unusedSimpArgs false
open Go Go.RowKit Go.Proofs.Ytkgakohgbbapaaa.M Go.Proofs.Ytkgakohgbbapaaa.BTreeValues Go.Proofs.Ytkgakohgbbapaaa.PTreeValues Go.Proofs.YtkgakohgbbapaaaW.PrintWords Go.Proofs.YtkgakohgbbapaaaW.PrintLast Go.Proofs.YtkgakohgbbapaaaW.PrintMore
theorem values_loop {l p : List Int} (hl : UL l) (hp : UL p) (hpl : p.length ≤ 1000) : ∀ (vs : List Int) (i : Nat), vs = ((pts l).map fun a => un (rv p a)).drop i → Ev (fun k => abacistlaw33_TreeValues.l k l p vs i) true
  | [], i, h => Ev.now _
  | v :: vs, i, h => by
    have hil : i < ((pts l).map fun a => un (rv p a)).length := by
      rcases Nat.lt_or_ge i ((pts l).map fun a => un (rv p a)).length with c | c
      · exact c
      · rw [List.drop_eq_nil_iff.2 c] at h; cases h
    have h2 := h
    rw [List.drop_eq_getElem_cons hil] at h2
    injection h2 with e1 e2
    have hil2 : i < l.length := by rw [List.length_map, pts_length] at hil; exact hil
    have e3 : v = un (rv p (cv (l.getD i 0))) := by
      rw [e1, List.getElem_map]
      congr 2
      unfold pts
      rw [List.getElem_map, List.getD_eq_getElem?_getD, List.getElem?_eq_getElem hil2]; rfl
    have hA := abacistref07_At_ev hp (by omega) (U_getD hl i)
    have e : ∀ k, abacistlaw33_TreeValues.l k l p (v :: vs) i = (abacistref07_At.f k p (l.getD i 0)).bind fun x => if v = x then abacistlaw33_TreeValues.l k l p vs (i + 1) else none := fun k => if_pos hil2
    simp -implicitDefEqProofs only [e]
    refine Ev.bind hA ?_
    simp -implicitDefEqProofs only [if_pos (show v = un (ev p.length (co p) (cv (l.getD i 0))) from e3)]
    exact values_loop hl hp hpl vs (i + 1) e2
theorem TreeValues : abacistlaw33_TreeValues.Pure := by
  intro l p _ _ hl _ _ hp
  have hl := UL_of_wf hl
  have hp := UL_of_wf hp
  refine Ev.rounds (g := fun k => abacistlaw33_TreeValues.f k l p) ?_
  unfold abacistlaw33_TreeValues.f
  refine Ev.bind abacistlaw33_awake_ev ?_
  simp -implicitDefEqProofs only [if_true]
  by_cases c : l.length = 0 ∨ 20 < l.length ∨ 30 < p.length
  · simp -implicitDefEqProofs only [if_pos c]; exact Ev.now _
  · simp -implicitDefEqProofs only [if_neg c]
    refine Ev.bind (tree_New_rows hl (by omega) (by omega)) ?_
    refine Ev.bind (tree_Tree_Values_ev (l := l) (by omega) (by omega) hp (by omega)) ?_
    simp -implicitDefEqProofs only [show ((pts l).map fun a => un (rv p a)).length = l.length by rw [List.length_map, pts_length], and_self, if_true]
    exact values_loop hl hp (by omega) _ 0 rfl
end Go.Proofs.Ytkgakohgbbapaaa.Pure
