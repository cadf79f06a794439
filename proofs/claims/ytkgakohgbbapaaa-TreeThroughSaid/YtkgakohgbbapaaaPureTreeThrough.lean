/- TreeThrough: for any row of points and any row of numbers the law's call answers true: of at most 16 points the polynomial through the numbers has them and at most as many coefficients as there are points; two points alike, or another count of numbers, are refused by name; through a polynomial's values it is that polynomial. Conditions: both rows read as rows. -/
import Derived.Test.YtkgakohgbbapaaaBTreeThrough
namespace Go.Proofs.Ytkgakohgbbapaaa.Pure
set_option linter.unusedVariables false
set_option linter.unusedSimpArgs false
open Go Go.RowKit Go.Proofs.Ytkgakohgbbapaaa.M Go.Proofs.Ytkgakohgbbapaaa.BTreeThrough Go.Proofs.Ytkgakohgbbapaaa.PTreeThrough Go.Proofs.YtkgakohgbbapaaaW.PrintWords Go.Proofs.YtkgakohgbbapaaaW.PrintLast Go.Proofs.YtkgakohgbbapaaaW.PrintMore
theorem nodup_iff (l : List Int) : (pts l).Nodup ↔ ∀ i j, j < i → i < l.length → cv (l.getD i 0) ≠ cv (l.getD j 0) := by
  have e : ∀ i (h : i < (pts l).length), (pts l)[i] = cv (l.getD i 0) := fun i h => by
    have h2 : i < l.length := by rw [pts_length] at h; exact h
    have e1 : (pts l).getD i 0 = (pts l)[i] := by rw [List.getD_eq_getElem?_getD, List.getElem?_eq_getElem h]; rfl
    rw [← e1]
    exact map_getD cv l h2 0 0
  unfold List.Nodup
  rw [List.pairwise_iff_getElem]
  constructor
  · intro h i j hj hi hne
    have := h j i (by rw [pts_length]; omega) (by rw [pts_length]; omega) hj
    rw [e, e] at this
    exact this hne.symm
  · intro h i j hi hj hij
    rw [e, e]
    exact fun hh => h j i hij (by rw [pts_length] at hj; exact hj) hh.symm
theorem of_at {l : List Int} (hl : UL l) (i : Nat) : abacistref02_Of.f (l.getD i 0) = some (un (cv (l.getD i 0))) := abacistref02_Of_eq (U_getD hl i).1
theorem d2_step {l : List Int} (hl : UL l) (i c k : Nat) : abacistlaw33_TreeThrough.d2 l i (c + 1) k = if cv (l.getD i 0) = cv (l.getD k 0) then some true else abacistlaw33_TreeThrough.d2 l i c (k + 1) := by
  rw [abacistlaw33_TreeThrough.d2.eq_2, of_at hl, of_at hl, Option.bind_some, Option.bind_some]
  by_cases h : cv (l.getD i 0) = cv (l.getD k 0)
  · rw [if_pos h, if_pos (by rw [h])]
  · rw [if_neg h, if_neg (fun e => h (un_inj e))]
theorem d2_none {l : List Int} (hl : UL l) (i : Nat) : ∀ c k, k + c = i → (∀ j, k ≤ j → j < i → cv (l.getD i 0) ≠ cv (l.getD j 0)) → abacistlaw33_TreeThrough.d2 l i c k = some false
  | 0, k, _, _ => rfl
  | c + 1, k, hk, h => by
    rw [d2_step hl, if_neg (h k (Nat.le_refl _) (by omega))]
    exact d2_none hl i c (k + 1) (by omega) (fun j hj hi => h j (by omega) hi)
theorem d2_some {l : List Int} (hl : UL l) (i : Nat) : ∀ c k, k + c = i → (∃ j, k ≤ j ∧ j < i ∧ cv (l.getD i 0) = cv (l.getD j 0)) → abacistlaw33_TreeThrough.d2 l i c k = some true
  | 0, k, hk, h => by
    obtain ⟨j, h1, h2, _⟩ := h
    omega
  | c + 1, k, hk, h => by
    rw [d2_step hl]
    by_cases e : cv (l.getD i 0) = cv (l.getD k 0)
    · rw [if_pos e]
    · rw [if_neg e]
      obtain ⟨j, h1, h2, h3⟩ := h
      refine d2_some hl i c (k + 1) (by omega) ⟨j, ?_, h2, h3⟩
      rcases Nat.lt_or_ge k j with x | x
      · exact x
      · obtain rfl : j = k := by omega
        exact absurd h3 e
theorem d1_none {l : List Int} (hl : UL l) (h : ∀ i j, j < i → i < l.length → cv (l.getD i 0) ≠ cv (l.getD j 0)) : ∀ c i, i + c = l.length → abacistlaw33_TreeThrough.d1 l c i = some false
  | 0, i, _ => rfl
  | c + 1, i, hi => by
    rw [abacistlaw33_TreeThrough.d1.eq_2, d2_none hl i i 0 (Nat.zero_add _) (fun j _ hj => h i j hj (by omega)), Option.bind_some, if_neg (by decide)]
    exact d1_none hl h c (i + 1) (by omega)
theorem d1_some {l : List Int} (hl : UL l) : ∀ c i, i + c = l.length → (∃ m j, i ≤ m ∧ j < m ∧ m < l.length ∧ cv (l.getD m 0) = cv (l.getD j 0)) → abacistlaw33_TreeThrough.d1 l c i = some true
  | 0, i, hi, h => by
    obtain ⟨m, j, h1, h2, h3, _⟩ := h
    omega
  | c + 1, i, hi, h => by
    rw [abacistlaw33_TreeThrough.d1.eq_2]
    by_cases e : ∃ j, j < i ∧ cv (l.getD i 0) = cv (l.getD j 0)
    · obtain ⟨j, h1, h2⟩ := e
      rw [d2_some hl i i 0 (Nat.zero_add _) ⟨j, Nat.zero_le _, h1, h2⟩, Option.bind_some, if_pos rfl]
    · rw [d2_none hl i i 0 (Nat.zero_add _) (fun j _ hj hh => e ⟨j, hj, hh⟩), Option.bind_some, if_neg (by decide)]
      obtain ⟨m, j, h1, h2, h3, h4⟩ := h
      refine d1_some hl c (i + 1) (by omega) ⟨m, j, ?_, h2, h3, h4⟩
      rcases Nat.lt_or_ge i m with x | x
      · exact x
      · obtain rfl : m = i := by omega
        exact absurd ⟨j, h2, h4⟩ e
theorem d3_ev {l y p : List Int} (hl : UL l) (hy : UL y) (hyl : y.length = l.length) (hp : UL p) (hpl : p.length ≤ 1000) (hv : ∀ j, j < l.length → rv p (cv (l.getD j 0)) = cv (y.getD j 0)) : ∀ c i, i + c = l.length → Ev (fun k => abacistlaw33_TreeThrough.d3 k p l y c i) true
  | 0, i, _ => Ev.now _
  | c + 1, i, hi => by
    have hA := abacistref07_At_ev hp (by omega) (U_getD hl i)
    have e1 : ev p.length (co p) (cv (l.getD i 0)) = cv (y.getD i 0) := hv i (by omega)
    rw [e1] at hA
    have e : ∀ k, abacistlaw33_TreeThrough.d3 k p l y (c + 1) i = (abacistref07_At.f k p (l.getD i 0)).bind fun a => if a = un (cv (y.getD i 0)) then abacistlaw33_TreeThrough.d3 k p l y c (i + 1) else none := fun k => by
      rw [abacistlaw33_TreeThrough.d3.eq_2, if_pos (show i < y.length by omega), of_at hy]
      rfl
    simp -implicitDefEqProofs only [e]
    refine Ev.bind hA ?_
    simp -implicitDefEqProofs only [if_true]
    exact d3_ev hl hy hyl hp hpl hv c (i + 1) (by omega)
theorem TR_trim {p : List Int} (h : TR p) : tr p.length (co p) = p := (IsRow.of (row_out p)).uniq h.2
theorem poly_same {l p q : List Int} (hd : (pts l).Nodup) (hp : p.length ≤ l.length) (hq : q.length ≤ l.length) (h : ∀ j, j < l.length → rv p (cv (l.getD j 0)) = rv q (cv (l.getD j 0))) (i : Nat) : co p i = co q i := by
  have hn := (nodup_iff l).1 hd
  by_cases c : i < l.length
  · have hz := roots_zero l.length (fun i => co p i - co q i) (fun i => cv (l.getD i 0)) (fun i j hi hj hne => by
      rcases Nat.lt_or_ge j i with x | x
      · exact hn i j x hi
      · exact fun e => hn j i (by omega) hj e.symm) (fun j hj => by
      have h1 := h j hj
      unfold rv at h1
      rw [ev_sub, ev_ext _ hp (fun i h1 _ => row_out p i h1), ev_ext _ hq (fun i h1 _ => row_out q i h1), h1]
      exact k1 _) i c
    exact k2 hz
  · rw [row_out p i (by omega), row_out q i (by omega)]
where
  k1 {R : Nat} [NeZero R] (x : Fin R) : x - x = 0 := by grind
  k2 {R : Nat} [NeZero R] {x y : Fin R} (h : x - y = 0) : x = y := by grind
theorem TreeThrough : abacistlaw33_TreeThrough.Pure := by
  intro l y _ _ hl _ _ hy
  have hl := UL_of_wf hl
  have hy := UL_of_wf hy
  refine Ev.rounds (g := fun k => abacistlaw33_TreeThrough.f k l y) ?_
  unfold abacistlaw33_TreeThrough.f
  refine Ev.bind abacistlaw33_awake_ev ?_
  simp -implicitDefEqProofs only [if_true]
  by_cases c : l.length = 0 ∨ 16 < l.length ∨ 30 < y.length
  · simp -implicitDefEqProofs only [if_pos c]; exact Ev.now _
  · simp -implicitDefEqProofs only [if_neg c]
    have h0 : 0 < l.length := by omega
    have h1 : l.length ≤ 64 := by omega
    refine Ev.bind (tree_New_rows hl h0 h1) ?_
    by_cases cl : y.length = l.length
    · by_cases hd : (pts l).Nodup
      · obtain ⟨p, hE, hT, hpl, hv⟩ := through_ev h0 h1 hy cl hd
        refine Ev.bind hE ?_
        simp -implicitDefEqProofs only [if_pos cl]
        have hn := d1_none hl ((nodup_iff l).1 hd) l.length 0 (Nat.zero_add _)
        refine Ev.bind (g := fun _ => abacistlaw33_TreeThrough.d1 l l.length 0) (a := false) ⟨0, fun _ _ => hn⟩ ?_
        simp -implicitDefEqProofs only [Bool.false_eq_true, if_false, if_pos (show (0 : Int) = 0 ∧ p.length ≤ l.length from ⟨rfl, hpl⟩), true_and, if_pos hpl]
        have hTr := abacistref07_Trim_ev hT.1 (by omega)
        rw [TR_trim hT] at hTr
        refine Ev.bind hTr ?_
        refine Ev.bind (abacistref04_Same_refl _ (by omega)) ?_
        simp -implicitDefEqProofs only [if_true]
        refine Ev.bind (d3_ev hl hy cl hT.1 (by omega) hv l.length 0 (Nat.zero_add _)) ?_
        refine Ev.bind (tree_Tree_Values_ev (l := l) h0 h1 hy (by omega)) ?_
        have hvU := slopes_UL (pts l) (rv y)
        have hvl : ((pts l).map fun a => un (rv y a)).length = l.length := by rw [List.length_map, pts_length]
        obtain ⟨q, hE2, hT2, hql, hq⟩ := through_ev h0 h1 hvU hvl hd
        refine Ev.bind hE2 ?_
        simp -implicitDefEqProofs only [and_self, if_true]
        refine Ev.bind (abacistref07_Trim_ev hy (by omega)) ?_
        have hco : ∀ i, co q i = co y i := poly_same hd hql (by omega) (fun j hj => by
          rw [hq j hj]
          have e := slopes_co (zs := pts l) (rv y) (i := j) (by rw [pts_length]; exact hj)
          unfold co at e
          rw [e]
          congr 1
          unfold pts
          exact map_getD _ _ hj 0 0)
        have hqy : q = tr y.length (co y) := hT2.2.uniq ((IsRow.of (row_out y)).congr (fun i => (hco i).symm))
        rw [← hqy]
        refine Ev.bind (abacistref04_Same_refl _ (by omega)) ?_
        simp -implicitDefEqProofs only [if_true]
        exact Ev.now _
      · refine Ev.bind (through_dup h0 h1 cl hd) ?_
        simp -implicitDefEqProofs only [if_pos cl]
        have hdd : ∃ m j, 0 ≤ m ∧ j < m ∧ m < l.length ∧ cv (l.getD m 0) = cv (l.getD j 0) := Classical.byContradiction fun hh => hd ((nodup_iff l).2 (fun i j hj hi e => hh ⟨i, j, Nat.zero_le _, hj, hi, e⟩))
        have hn := d1_some hl l.length 0 (Nat.zero_add _) hdd
        refine Ev.bind (g := fun _ => abacistlaw33_TreeThrough.d1 l l.length 0) (a := true) ⟨0, fun _ _ => hn⟩ ?_
        simp -implicitDefEqProofs only [if_true, List.length_nil, and_self]
        exact Ev.now _
    · have hE : Ev (fun k => tree_Tree_Through.f k (hk_ofs l) (rowsOf (ptree l)) y) ([], 19) := by
        unfold tree_Tree_Through.f
        simp -implicitDefEqProofs only [if_neg (show ¬ y.length = (hk_ofs l).length by rw [ofs_length]; exact cl)]
        exact Ev.now _
      refine Ev.bind hE ?_
      simp -implicitDefEqProofs only [if_neg cl, List.length_nil, and_self, if_true]
      exact Ev.now _
end Go.Proofs.Ytkgakohgbbapaaa.Pure
