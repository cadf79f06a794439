/- TreeNodes: for any row of points, any level and any place the law's call answers true: of at most 20 points, each polynomial of the tree is the product of the two below it, at the bottom are the points, at the top is the product of all; what lies outside is refused. Conditions: the row reads as a row. -/
import Derived.Test.YtkgakohgbbapaaaBTreeNodes
namespace Go.Proofs.Ytkgakohgbbapaaa.Pure
set_option linter.unusedVariables false
set_option linter.unusedSimpArgs false
open Go Go.RowKit Go.Proofs.Ytkgakohgbbapaaa.M Go.Proofs.Ytkgakohgbbapaaa.BTreeNodes Go.Proofs.Ytkgakohgbbapaaa.PTreeNodes Go.Proofs.YtkgakohgbbapaaaW.PrintWords Go.Proofs.YtkgakohgbbapaaaW.PrintLast Go.Proofs.YtkgakohgbbapaaaW.PrintMore
theorem node_at {l : List Int} {T : List (List (List F))} (h : Tr l T) (hl : l.length ≤ 64) {ps : List Int} {k j : Nat} (hk : k < T.length) (hj : j < (T.getD k []).length) :
    tree_Tree_Node.f ps (rowsOf T) (k : Int) (j : Int) = some (nrow ((T.getD k []).getD j []), 0) := by
  have hs := h.short hk hj
  have e := rowsOf_node T k hj
  rw [tree_Tree_Node_at (by rw [rowsOf_length]; exact hk) (by rw [rowsOf_at, List.length_map]; exact hj) (by rw [e, nrow_length]; omega), e]
theorem node_out {T : List (List (List F))} {ps : List Int} {k j : Nat} (hj : (T.getD k []).length ≤ j) : tree_Tree_Node.f ps (rowsOf T) (k : Int) (j : Int) = some ([], 2) :=
  tree_Tree_Node_out (.inr (.inr (.inr (by rw [Int.toNat_natCast, rowsOf_at, List.length_map]; omega))))
theorem nodes_mul (xs ys : List F) (hx : xs.length ≤ 1000) (hy : ys.length ≤ 1000) : Ev (fun k => abacistref07_Mul.f k (nrow xs) (nrow ys)) (nrow (xs ++ ys)) := by
  have h := abacistref07_Mul_ev (nrow_TR xs).1 (nrow_TR ys).1 (by rw [nrow_length, nrow_length]; omega)
  have e : tr ((nrow xs).length + (nrow ys).length) (cvl (co (nrow xs)) (co (nrow ys))) = nrow (xs ++ ys) := nrow_two xs ys
  rw [e] at h
  exact h
theorem nrow_nil : nrow [] = [1] := tab_one
theorem take_snoc (l : List F) {j : Nat} (h : j < l.length) : l.take (j + 1) = l.take j ++ [l.getD j 0] := by
  rw [List.take_succ_eq_append_getElem h, List.getD_eq_getElem?_getD, List.getElem?_eq_getElem h]; rfl
theorem nodes_l2_zero {l : List Int} {T : List (List (List F))} (hT : Tr l T) (hU : UL l) (hl : l.length ≤ 20) (ps : List Int) : ∀ (c j : Nat), j + c = l.length →
    Ev (fun K => abacistlaw33_TreeNodes.l2 K ps (rowsOf T) l 0 c j (nrow ((pts l).take j))) (nrow (pts l))
  | 0, j, hj => by
    rw [List.take_of_length_le (by rw [pts_length]; omega)]
    exact Ev.now _
  | c + 1, j, hj => by
    have hjl : j < l.length := by omega
    have hne := hT.ne
    have hz : (T.getD 0 []).getD j [] = [cv (l.getD j 0)] := by
      rw [hT.zero]; unfold sing
      rw [map_getD _ _ (by rw [pts_length]; exact hjl) 0 []]
      unfold pts
      rw [map_getD _ _ hjl 0 0]
    have hlen0 : (T.getD 0 []).length = l.length := by rw [hT.zero]; unfold sing; rw [List.length_map, pts_length]
    have hN := node_at hT (by omega) (ps := ps) (k := 0) (j := j) hne (by omega)
    rw [hz] at hN
    have hS : abacistref02_Sub.f 0 (l.getD j 0) = some (un (- cv (l.getD j 0))) := by
      rw [abacistref02_Sub_eq (show (0 : Int) ≤ 0 by decide) (U_getD hU j).1, cv_zero]
      exact congrArg (fun x => some (un x)) (k1 _)
    have hM := nodes_mul ((pts l).take j) [cv (l.getD j 0)] (by rw [List.length_take]; omega) (by simp)
    have e5 : (pts l).getD j 0 = cv (l.getD j 0) := by unfold pts; rw [map_getD _ _ hjl 0 0]
    rw [← e5, ← take_snoc (pts l) (by rw [pts_length]; exact hjl), e5] at hM
    have ih := nodes_l2_zero hT hU hl ps c (j + 1) (by omega)
    have e : ∀ K, abacistlaw33_TreeNodes.l2 K ps (rowsOf T) l 0 (c + 1) j (nrow ((pts l).take j)) = (abacistref07_Mul.f K (nrow ((pts l).take j)) (nrow [cv (l.getD j 0)])).bind fun t2 => (abacistref04_Same.f K (nrow [cv (l.getD j 0)]) (nrow [cv (l.getD j 0)])).bind fun b => if b = true then abacistlaw33_TreeNodes.l2 K ps (rowsOf T) l 0 c (j + 1) t2 else none := fun K => by
      rw [abacistlaw33_TreeNodes.l2.eq_2, hN, Option.bind_some]
      simp only [if_true]
      rw [if_pos hjl, hS, Option.bind_some, leaf_nrow]
    simp -implicitDefEqProofs only [e]
    refine Ev.bind hM ?_
    refine Ev.bind (abacistref04_Same_refl _ (by rw [nrow_length]; simp)) ?_
    simp -implicitDefEqProofs only [if_true]
    exact ih
where
  k1 {R : Nat} [NeZero R] (x : Fin R) : 0 - x = -x := by grind
theorem nodes_l2_up {l : List Int} {T : List (List (List F))} (hT : Tr l T) (hl : l.length ≤ 20) (ps top : List Int) (k : Nat) (hk : k + 1 < T.length) : ∀ (c j : Nat), j + c = (T.getD (k + 1) []).length →
    Ev (fun K => abacistlaw33_TreeNodes.l2 K ps (rowsOf T) l (k + 1) c j top) top
  | 0, j, hj => Ev.now _
  | c + 1, j, hj => by
    have hjl : j < (T.getD (k + 1) []).length := by omega
    have hN := node_at hT (by omega) (ps := ps) (k := k + 1) (j := j) hk hjl
    have hj2 := hjl
    rw [hT.up k hk, pabv_length] at hj2
    have hA := node_at hT (by omega) (ps := ps) (k := k) (j := 2 * j) (by omega) (by omega)
    have hab : (T.getD (k + 1) []).getD j [] = (T.getD k []).getD (2 * j) [] ++ (T.getD k []).getD (2 * j + 1) [] := by rw [hT.up k hk]; exact pabv_at _ _ (by omega)
    have sA := hT.short (k := k) (j := 2 * j) (by omega) (by omega)
    have sN := hT.short hk hjl
    have ih := nodes_l2_up hT hl ps top k hk c (j + 1) (by omega)
    have e1 : (((k + 1 : Nat) : Int) - 1) = (k : Int) := by omega
    have e2 : 2 * (j : Int) = ((2 * j : Nat) : Int) := by omega
    have e3 : 2 * (j : Int) + 1 = ((2 * j + 1 : Nat) : Int) := by omega
    by_cases hb : 2 * j + 1 < (T.getD k []).length
    · have hB := node_at hT (by omega) (ps := ps) (k := k) (j := 2 * j + 1) (by omega) hb
      have sB := hT.short (k := k) (j := 2 * j + 1) (by omega) hb
      have hM := nodes_mul ((T.getD k []).getD (2 * j) []) ((T.getD k []).getD (2 * j + 1) []) (by omega) (by omega)
      rw [← hab] at hM
      have e : ∀ K, abacistlaw33_TreeNodes.l2 K ps (rowsOf T) l (k + 1) (c + 1) j top = (abacistref07_Mul.f K (nrow ((T.getD k []).getD (2 * j) [])) (nrow ((T.getD k []).getD (2 * j + 1) []))).bind fun want => (abacistref04_Same.f K (nrow ((T.getD (k + 1) []).getD j [])) want).bind fun q => if q = true then abacistlaw33_TreeNodes.l2 K ps (rowsOf T) l (k + 1) c (j + 1) top else none := fun K => by
        rw [abacistlaw33_TreeNodes.l2.eq_2, hN, Option.bind_some, e1, e3, e2, hA, Option.bind_some, hB, Option.bind_some]
        simp only [if_true, if_neg (show ¬ k + 1 = 0 by omega)]
      simp -implicitDefEqProofs only [e]
      refine Ev.bind hM ?_
      refine Ev.bind (abacistref04_Same_refl _ (by rw [nrow_length]; omega)) ?_
      simp -implicitDefEqProofs only [if_true]
      exact ih
    · have hB := node_out (T := T) (ps := ps) (k := k) (j := 2 * j + 1) (by omega)
      have hz : (T.getD k []).getD (2 * j + 1) [] = [] := by rw [List.getD_eq_getElem?_getD, List.getElem?_eq_none (by omega)]; rfl
      rw [hz, List.append_nil] at hab
      rw [hab] at hN
      have e : ∀ K, abacistlaw33_TreeNodes.l2 K ps (rowsOf T) l (k + 1) (c + 1) j top = (abacistref04_Same.f K (nrow ((T.getD k []).getD (2 * j) [])) (nrow ((T.getD k []).getD (2 * j) []))).bind fun q => if q = true then abacistlaw33_TreeNodes.l2 K ps (rowsOf T) l (k + 1) c (j + 1) top else none := fun K => by
        rw [abacistlaw33_TreeNodes.l2.eq_2, hN, Option.bind_some, e1, e3, e2, hA, Option.bind_some, hB, Option.bind_some]
        simp only [if_true, if_neg (show ¬ k + 1 = 0 by omega), if_neg (show ¬ (2 : Int) = 0 by decide)]
      simp -implicitDefEqProofs only [e]
      refine Ev.bind (abacistref04_Same_refl _ (by rw [nrow_length]; omega)) ?_
      simp -implicitDefEqProofs only [if_true]
      exact ih
theorem nodes_l1_up {l : List Int} {T : List (List (List F))} (hT : Tr l T) (hl : l.length ≤ 20) (ps top : List Int) : ∀ (m k : Nat), k + 1 + m = T.length → 0 < m →
    Ev (fun K => abacistlaw33_TreeNodes.l1 K ps (rowsOf T) l m (k + 1) (T.getD (k + 1) []).length top) (1, top)
  | 0, k, _, h => by omega
  | m + 1, k, hm, _ => by
    have h2 := nodes_l2_up hT hl ps top k (by omega) (T.getD (k + 1) []).length 0 (Nat.zero_add _)
    refine Ev.bind h2 ?_
    by_cases h0 : m = 0
    · simp -implicitDefEqProofs only [if_pos h0]
      have e : (T.getD (k + 1) []).length = 1 := by rw [show k + 1 = T.length - 1 by omega]; exact hT.last
      rw [e]
      exact Ev.now _
    · simp -implicitDefEqProofs only [if_neg h0]
      have ih := nodes_l1_up hT hl ps top m (k + 1) (by omega) (by omega)
      rw [hT.up (k + 1) (by omega), pabv_length] at ih
      exact ih
theorem nodes_l1 {l : List Int} {T : List (List (List F))} (hT : Tr l T) (hU : UL l) (hl : l.length ≤ 20) (ps : List Int) : Ev (fun K => abacistlaw33_TreeNodes.l1 K ps (rowsOf T) l T.length 0 l.length [1]) (1, nrow (pts l)) := by
  have hne := hT.ne
  obtain ⟨m, hm⟩ : ∃ m, T.length = m + 1 := ⟨T.length - 1, by omega⟩
  have h2 := nodes_l2_zero hT hU hl ps l.length 0 (Nat.zero_add _)
  rw [show (pts l).take 0 = [] from rfl, nrow_nil] at h2
  rw [hm]
  refine Ev.bind h2 ?_
  have hlen0 : (T.getD 0 []).length = l.length := by rw [hT.zero]; unfold sing; rw [List.length_map, pts_length]
  by_cases h0 : m = 0
  · simp -implicitDefEqProofs only [if_pos h0]
    have e := hT.last
    rw [show T.length - 1 = 0 by omega, hlen0] at e
    rw [e]
    exact Ev.now _
  · simp -implicitDefEqProofs only [if_neg h0]
    have h3 := nodes_l1_up hT hl ps (nrow (pts l)) m 0 (by omega) (by omega)
    rw [hT.up 0 (by omega), pabv_length, hlen0] at h3
    exact h3
theorem nodes_any {l : List Int} {T : List (List (List F))} (hT : Tr l T) (hl : l.length ≤ 20) (ps : List Int) (a1 a2 : Int) : ∃ r, tree_Tree_Node.f ps (rowsOf T) a1 a2 = some r ∧ ((a1 < 0 ∨ ((rowsOf T).length : Int) ≤ a1 ∨ a2 < 0 ∨ (l.length : Int) ≤ a2) → r.2 = 2) := by
  by_cases c : a1 < 0 ∨ ((rowsOf T).length : Int) ≤ a1 ∨ a2 < 0 ∨ (((rowsOf T).getD a1.toNat []).length : Int) ≤ a2
  · exact ⟨_, tree_Tree_Node_out c, fun _ => rfl⟩
  · obtain ⟨k, hk⟩ : ∃ k : Nat, a1 = (k : Int) := ⟨a1.toNat, by omega⟩
    obtain ⟨j, hj⟩ : ∃ j : Nat, a2 = (j : Int) := ⟨a2.toNat, by omega⟩
    subst hk hj
    rw [Int.toNat_natCast, rowsOf_at, List.length_map, rowsOf_length] at c
    have hkT : k < T.length := by omega
    have hw := hT.width k hkT
    refine ⟨_, node_at hT (by omega) hkT (by omega), fun h => ?_⟩
    rw [rowsOf_length] at h
    omega
theorem TreeNodes : abacistlaw33_TreeNodes.Pure := by
  intro l a1 a2 _ _ hl _ _
  have hl := UL_of_wf hl
  refine Ev.rounds (g := fun k => abacistlaw33_TreeNodes.f k l a1 a2) ?_
  unfold abacistlaw33_TreeNodes.f
  refine Ev.bind abacistlaw33_awake_ev ?_
  simp -implicitDefEqProofs only [if_true]
  by_cases c : 20 < l.length
  · simp -implicitDefEqProofs only [if_pos c]; exact Ev.now _
  · simp -implicitDefEqProofs only [if_neg c]
    by_cases c0 : l.length = 0
    · simp -implicitDefEqProofs only [if_pos c0]; exact Ev.now _
    · simp -implicitDefEqProofs only [if_neg c0]
      refine Ev.bind (tree_New_rows hl (by omega) (by omega)) ?_
      have hT := ptree_Tr (l := l) (by omega)
      generalize ptree l = T at hT
      have hlen := hT.len
      have hne := hT.ne
      simp -implicitDefEqProofs only [if_pos (show (rowsOf T).length < 4294967296 by rw [rowsOf_length]; omega)]
      have h1 := nodes_l1 hT hl (by omega) (hk_ofs l)
      rw [← rowsOf_length T] at h1
      refine Ev.bind h1 ?_
      obtain ⟨r, hr, hc⟩ := nodes_any hT (by omega) (hk_ofs l) a1 a2
      refine Ev.bind (g := fun _ => tree_Tree_Node.f (hk_ofs l) (rowsOf T) a1 a2) (a := r) ⟨0, fun _ _ => hr⟩ ?_
      simp -implicitDefEqProofs only [if_pos hc, if_true]
      have e0 := rowsOf_node T (T.length - 1) (j := 0) (by rw [hT.last]; exact Nat.zero_lt_one)
      rw [hT.top] at e0
      have hTop := tree_Tree_Top_at (ps := hk_ofs l) (L := rowsOf T) (n := T.length - 1) (by rw [rowsOf_length]; omega) (by omega) (by rw [rowsOf_at, hT.top]; exact Nat.zero_lt_one) (by rw [e0]; show (nrow (pts l)).length < 1000000; rw [nrow_length, pts_length]; omega)
      rw [e0] at hTop
      refine Ev.bind (g := fun _ => tree_Tree_Top.f (hk_ofs l) (rowsOf T)) (a := nrow (pts l)) ⟨0, fun _ _ => hTop⟩ ?_
      refine Ev.bind (abacistref04_Same_refl _ (by rw [nrow_length, pts_length]; omega)) ?_
      simp -implicitDefEqProofs only [if_true]
      exact Ev.now _
end Go.Proofs.Ytkgakohgbbapaaa.Pure
