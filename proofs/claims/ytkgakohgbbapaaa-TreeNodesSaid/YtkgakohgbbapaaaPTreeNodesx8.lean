-- Written for this claim by wip/gen/mk.sh, this session's own driver over the kit's print
import Derived.Test.YtkgakohgbbapaaaPTreeNodesx0
import Derived.Test.YtkgakohgbbapaaaPTreeNodesx6
import Derived.Test.YtkgakohgbbapaaaPTreeNodesx7
namespace Go.Proofs.Ytkgakohgbbapaaa.PTreeNodes
open Go.RowKit Go.Proofs.YtkgakohgbbapaaaW.PrintWords Go.Proofs.YtkgakohgbbapaaaW.PrintLast Go.Proofs.YtkgakohgbbapaaaW.PrintMore
attribute [local go_sem] max2_int min2_int max_two min_two max_three min_three max_four min_four   -- for this text's walks alone
set_option linter.unusedVariables false
set_option linter.unusedSimpArgs false

/-! ### abacistlaw33_TreeNodes: function 3 (by hand) -/
set_option maxHeartbeats 4000000 in
set_option maxRecDepth 100000 in
theorem tree_New.none (A0 : Option Addr) (c0 : Nat) (w : World) : Calls Try.prog 8 #[.slice A0 0 c0] w fun e w' => e = .returned (.tuple #[.pointer none, .int .i64 1]) ∧ Below w.heap.size w w' := by
  go_enter Try.func8, Try.ntmps8
  go_wp2
  go_ret2
  exact ⟨rfl, Below.refl _ _⟩
theorem hk_Node.calls (g : Nat) (ps : List Int) (L : List (List (List Int))) (a1 a2 : Int) (r1 : List Int) (r2 : Int) (w : World) (hT : hk_T w g ps L) (h : tree_Tree_Node.f ps L a1 a2 = some (r1, r2)) :
    Calls Try.prog 11 #[.pointer (some ⟨g, 0, none⟩), .int .i64 a1, .int .i64 a2] w fun e w' => ∃ (A : Option Addr) (c : Nat), e = .returned (.tuple #[.slice A r1.length c, .int .i64 r2]) ∧ r1.length ≤ c ∧ Kd.C (Kd.int .u64) w' A r1.length r1 ∧ Below w.heap.size w w' := by
  refine (tree_Tree_Node.calls g ps L a1 a2 r1 r2 w w (hk_T.state hT) (Below.refl _ _) h).mono ?_
  rintro e w' ⟨v, rfl, hR, _, hb, _⟩
  obtain ⟨A, c, rfl⟩ := Kd.R_slice hR
  exact ⟨A, c, rfl, (Kd.R_reads' hR).2.1, (Kd.R_reads' hR).2.2, hb⟩
theorem hk_Top.calls (g : Nat) (ps : List Int) (L : List (List (List Int))) (r1 : List Int) (w : World) (hT : hk_T w g ps L) (h : tree_Tree_Top.f ps L = some r1) :
    Calls Try.prog 15 #[.pointer (some ⟨g, 0, none⟩)] w fun e w' => ∃ (A : Option Addr) (c : Nat), e = .returned (.slice A r1.length c) ∧ r1.length ≤ c ∧ Kd.C (Kd.int .u64) w' A r1.length r1 ∧ Below w.heap.size w w' := by
  refine (tree_Tree_Top.calls g ps L r1 w w (hk_T.state hT) (Below.refl _ _) h).mono ?_
  rintro e w' ⟨v, rfl, hR, _, hb, _⟩
  obtain ⟨A, c, rfl⟩ := Kd.R_slice hR
  exact ⟨A, c, rfl, (Kd.R_reads' hR).2.1, (Kd.R_reads' hR).2.2, hb⟩
theorem hk_Levels.calls (g : Nat) (ps : List Int) (L : List (List (List Int))) (w : World) (hT : hk_T w g ps L) :
    Calls Try.prog 10 #[.pointer (some ⟨g, 0, none⟩)] w fun e w' => e = .returned (.int .i64 (L.length : Int)) ∧ Below w.heap.size w w' := by
  refine (tree_Tree_Levels.calls g ps L _ w w (hk_T.state hT) (Below.refl _ _) rfl).mono ?_
  rintro e w' ⟨rfl, _, hb, _⟩
  exact ⟨rfl, hb⟩
theorem hk_Len.calls (g : Nat) (ps : List Int) (L : List (List (List Int))) (w : World) (hT : hk_T w g ps L) :
    Calls Try.prog 9 #[.pointer (some ⟨g, 0, none⟩)] w fun e w' => e = .returned (.int .i64 (ps.length : Int)) ∧ Below w.heap.size w w' := by
  refine (tree_Tree_Len.calls g ps L _ w w (hk_T.state hT) (Below.refl _ _) rfl).mono ?_
  rintro e w' ⟨rfl, _, hb, _⟩
  exact ⟨rfl, hb⟩
def abacistlaw33_TreeNodes.l2 (K : Nat) (ps : List Int) (L : List (List (List Int))) (l0 : List Int) (k : Nat) : Nat → Nat → List Int → Option (List Int)
  | 0, _, top => some top
  | c + 1, j, top => (tree_Tree_Node.f ps L (k : Int) (j : Int)).bind fun p => if p.2 = 0 then
      (if k = 0 then (if j < l0.length then (abacistref02_Sub.f 0 (l0.getD j 0)).bind fun s => (abacistref07_Mul.f K top [s, 1]).bind fun t2 => (abacistref04_Same.f K p.1 [s, 1]).bind fun b => if b = true then abacistlaw33_TreeNodes.l2 K ps L l0 k c (j + 1) t2 else none else none)
      else (tree_Tree_Node.f ps L ((k : Int) - 1) (2 * (j : Int))).bind fun a => (tree_Tree_Node.f ps L ((k : Int) - 1) (2 * (j : Int) + 1)).bind fun b => if a.2 = 0 then
        (if b.2 = 0 then (abacistref07_Mul.f K a.1 b.1).bind fun want => (abacistref04_Same.f K p.1 want).bind fun q => if q = true then abacistlaw33_TreeNodes.l2 K ps L l0 k c (j + 1) top else none
        else if b.2 = 2 then (abacistref04_Same.f K p.1 a.1).bind fun q => if q = true then abacistlaw33_TreeNodes.l2 K ps L l0 k c (j + 1) top else none else none) else none) else none
def abacistlaw33_TreeNodes.l1 (K : Nat) (ps : List Int) (L : List (List (List Int))) (l0 : List Int) : Nat → Nat → Nat → List Int → Option (Nat × List Int)
  | 0, _, _, _ => none
  | m + 1, k, n, top => (abacistlaw33_TreeNodes.l2 K ps L l0 k n 0 top).bind fun t2 => if m = 0 then some (n, t2) else abacistlaw33_TreeNodes.l1 K ps L l0 m (k + 1) ((n + 1) / 2) t2
def abacistlaw33_TreeNodes.f (K : Nat) (l0 : List Int) (a1 a2 : Int) : Option Bool :=
  (abacistlaw33_awake.f K).bind fun b => if b = true then (if 20 < l0.length then some true else if l0.length = 0 then some true else
    (tree_New.f K l0).bind fun L => if L.length < 4294967296 then (abacistlaw33_TreeNodes.l1 K (hk_ofs l0) L l0 L.length 0 l0.length [1]).bind fun nt => (tree_Tree_Node.f (hk_ofs l0) L a1 a2).bind fun r =>
      if (a1 < 0 ∨ (L.length : Int) ≤ a1 ∨ a2 < 0 ∨ (l0.length : Int) ≤ a2) → r.2 = 2 then (if nt.1 = 1 then (tree_Tree_Top.f (hk_ofs l0) L).bind fun tp => (abacistref04_Same.f K tp nt.2).bind fun q => if q = true then some true else none else none) else none
    else none) else none
set_option maxHeartbeats 4000000 in
set_option maxRecDepth 100000 in
theorem abacistlaw33_TreeNodes.calls (K : Nat) (A0 : Option Addr) (c0 : Nat) (l0 : List Int) (a1 a2 : Int) (w : World) (hr0 : Kd.C (Kd.int .u64) w A0 l0.length l0) (hc0 : l0.length ≤ c0) (h : abacistlaw33_TreeNodes.f K l0 a1 a2 = some true) :
    Calls Try.prog 3 #[.slice A0 l0.length c0, .int .i64 a1, .int .i64 a2] w fun e w' => e = .returned (.bool true) ∧ Below w.heap.size w w' := by
  have HR0 := Aside0.mk hr0
  have HC0 := Aside0.mk hc0
  clear hr0 hc0
  obtain ⟨b, h1, h⟩ := Option.bind_eq_some_iff.1 h
  by_cases hb : b = true
  · rw [if_pos hb] at h
    subst hb
    have H1 := Aside0.mk h1
    clear h1
    by_cases s1 : 20 < l0.length
    · have p1 : decide ((20 : Int) < (l0.length : Int)) = true := decide_eq_true (by omega)
      have p2 : decide (20 < l0.length) = true := decide_eq_true s1
      have p3 := eq_true s1
      clear h s1
      go_enter Try.func3, Try.ntmps3
      go_wp2_with (go_at_call 7; (with_reducible refine (abacistlaw33_awake.calls K true _ H1.out).mono ?_); rintro e w1 ⟨rfl, hb1⟩)
      go_ret
      exact ⟨rfl, hb1⟩
    · rw [if_neg s1] at h
      have p1 : decide ((20 : Int) < (l0.length : Int)) = false := decide_eq_false (by omega)
      have p2 : decide (20 < l0.length) = false := decide_eq_false s1
      by_cases s2 : l0.length = 0
      · clear h
        obtain rfl := List.eq_nil_of_length_eq_zero s2
        clear s2 p1 p2 s1
        go_enter Try.func3, Try.ntmps3
        go_wp2_with (first
          | (go_at_call 7; (with_reducible refine (abacistlaw33_awake.calls K true _ H1.out).mono ?_); rintro e w1 ⟨rfl, hb1⟩)
          | (go_at_call 8; (refine (tree_New.none A0 c0 _).mono ?_); rintro e w2 ⟨rfl, hb2⟩))
        go_ret
        exact ⟨rfl, below_step hb1 hb2⟩
      · rw [if_neg s2] at h
        have p3 : ((l0.length : Int) == 0) = false := beq_eq_false_iff_ne.2 (by omega)
        have p4 : (l0.length == 0) = false := beq_eq_false_iff_ne.2 s2
        have p5 : (l0 == []) = false := by cases l0 with | nil => exact absurd rfl s2 | cons _ _ => rfl
        obtain ⟨L, h2, h⟩ := Option.bind_eq_some_iff.1 h
        by_cases hL : L.length < 4294967296
        · rw [if_pos hL] at h
          obtain ⟨⟨n1, t1⟩, h3, h⟩ := Option.bind_eq_some_iff.1 h
          obtain ⟨⟨r1, r2⟩, h4, h⟩ := Option.bind_eq_some_iff.1 h
          have H2 := Aside0.mk h2
          have H3 := Aside0.mk h3
          have H4 := Aside0.mk h4
          have H := Aside0.mk h
          have HL := Aside0.mk hL
          have HLP := Aside0.mk (show 0 < l0.length ∧ l0.length ≤ 20 by omega)
          have p6 : (((hk_ofs l0).length : Int) != (l0.length : Int)) = false := by simp [hk_ofs_len]
          have p7 : (((hk_ofs l0).length : Int) == (l0.length : Int)) = true := by simp [hk_ofs_len]
          have p8 : ((hk_ofs l0).length == l0.length) = true := by simp [hk_ofs_len]
          clear h2 h3 h4 h hL s1 s2
          go_enter Try.func3, Try.ntmps3
          go_wp2_with (first
            | (go_at_call 7; (with_reducible refine (abacistlaw33_awake.calls K true _ H1.out).mono ?_); rintro e w1 ⟨rfl, hb1⟩)
            | (go_at_call 8; (with_reducible refine (tree_New.calls K A0 c0 l0 L _ (Kd.C_below HR0.out hb1) HC0.out H2.out).mono ?_); rintro e w2 ⟨g, rfl, hT2, hg, hb2⟩; have hb2 := below_step hb1 hb2)
            | (go_at_call 9; (with_reducible refine (hk_Len.calls g (hk_ofs l0) L _ hT2).mono ?_); rintro e w3 ⟨rfl, hb3⟩; have HT := Aside0.mk (hk_T.below hT2 hb3); have HB := Aside0.mk (below_step hb2 hb3); clear hT2 hg hb1 hb2 hb3))
          have HT9 := Aside0.mk (hk_T.below HT.out (below_alloc (Below.refl w3.heap.size w3) (.cells #[.int .u64 1] 29)))
          have HB9 := Aside0.mk (below_alloc HB.out (.cells #[.int .u64 1] 29))
          have HR9 := Aside0.mk (Kd.F_now (hk_lit_F [1] (blk_new w3 (.cells #[.int .u64 1] 29)) (by decide)))
          clear HT HB p1 p2 p3 p4 p5 p6 p7 p8
          go_loopg [9, 10, 11] L.length (fun kq v9 v10 v11 w' => ∃ (k n : Nat) (top : List Int) (At : Option Addr) (ct : Nat), v9 = .int .i64 (n : Int) ∧ v10 = .slice At top.length ct ∧ v11 = .int .i64 (k : Int) ∧ Aside0 (k + kq = L.length) ∧ Aside0 (abacistlaw33_TreeNodes.l1 K (hk_ofs l0) L l0 kq k n top = some (n1, t1)) ∧ Aside0 (n ≤ 20) ∧ Aside0 (top.length ≤ ct) ∧ Aside0 (Kd.C (Kd.int .u64) w' At top.length top) ∧ Aside0 (hk_T w' g (hk_ofs l0) L) ∧ Aside0 (Below w.heap.size w w'))
          case atStart => exact ⟨0, l0.length, [1], some ⟨w3.heap.size, 0, none⟩, 1, rfl, rfl, rfl, ⟨Nat.zero_add _⟩, H3, ⟨HLP.out.2⟩, ⟨Nat.le_refl 1⟩, HR9, HT9, HB9⟩
          case round =>
            clear H3 HT9 HB9 HR9
            obtain ⟨k, n, top, At, ct, rfl, rfl, rfl, HI, HA, HNB, HCT, HRT, HT, HB⟩ := hrel
            obtain ⟨W, rfl⟩ : ∃ W, W = wr := ⟨_, rfl⟩
            cases gk with
            | zero => exact absurd HA.out (by simp [abacistlaw33_TreeNodes.l1])
            | succ m =>
              obtain ⟨t2, hA1, hA2⟩ := Option.bind_eq_some_iff.1 (show (abacistlaw33_TreeNodes.l2 K (hk_ofs l0) L l0 k n 0 top).bind (fun t2 => if m = 0 then some (n, t2) else abacistlaw33_TreeNodes.l1 K (hk_ofs l0) L l0 m (k + 1) ((n + 1) / 2) t2) = some (n1, t1) from HA.out)
              have HA1 := Aside0.mk hA1
              have HA2 := Aside0.mk hA2
              clear HA hA1 hA2
              have hi := HI.out
              have hL := HL.out
              have hkL : k < L.length := by omega
              have hkb : k < 4294967296 := by omega
              have c1 : decide ((k : Int) < (L.length : Int)) = true := decide_eq_true (by omega)
              have c2 : (k < L.length) = True := eq_true hkL
              have c3 : ((k : Int) < (L.length : Int)) = True := eq_true (by omega)
              clear hi hL hkL
              go_wp2_with (go_at_call 10; (with_reducible refine (hk_Levels.calls g (hk_ofs l0) L _ HT.out).mono ?_); rintro e w4 ⟨rfl, hb4⟩; have HT4 := Aside0.mk (hk_T.below HT.out hb4); have HB4 := Aside0.mk (below_step HB.out hb4); have HR4 := Aside0.mk (Kd.C_below HRT.out hb4); clear hb4)
              clear c1 c2 c3 HT HB HRT
              go_loopg [10, 12] n (fun kq v10 v12 w' => ∃ (j : Nat) (tp : List Int) (A : Option Addr) (c : Nat), v10 = .slice A tp.length c ∧ v12 = .int .i64 (j : Int) ∧ Aside0 (j + kq = n) ∧ Aside0 (abacistlaw33_TreeNodes.l2 K (hk_ofs l0) L l0 k kq j tp = some t2) ∧ Aside0 (tp.length ≤ c) ∧ Aside0 (Kd.C (Kd.int .u64) w' A tp.length tp) ∧ Aside0 (hk_T w' g (hk_ofs l0) L) ∧ Aside0 (Below w.heap.size w w'))
              case atStart => exact ⟨0, top, At, ct, rfl, rfl, ⟨Nat.zero_add _⟩, HA1, HCT, HR4, HT4, HB4⟩
              case round =>
                clear HA1 HCT HR4 HT4 HB4
                obtain ⟨j, tp, A, c, rfl, rfl, HJ, HAJ, HC, HR, HT, HB⟩ := hrel
                have hj := HJ.out
                have hn20 := HNB.out
                cases gk with
                | zero =>
                  have hjn : j = n := by omega
                  subst hjn
                  have ht := Option.some.inj HAJ.out
                  subst ht
                  have q1 : decide ((j : Int) < (j : Int)) = false := decide_eq_false (by omega)
                  have q2 : (j < j) = False := eq_false (by omega)
                  have q3 : decide (j < j) = false := decide_eq_false (by omega)
                  have hA2 := HA2.out
                  have hi := HI.out
                  by_cases hm : m = 0
                  · rw [if_pos hm] at hA2
                    subst hm
                    injection hA2 with hA2
                    injection hA2 with e1 e2
                    subst e1 e2
                    have q4 : (((k : Int) + 1) == (L.length : Int)) = true := beq_iff_eq.2 (by omega)
                    have q5 : (((k : Int) + 1) = (L.length : Int)) = True := eq_true (by omega)
                    have q6 : (k + 1 == L.length) = true := beq_iff_eq.2 (by omega)
                    clear hj hi HJ HI HAJ HA2
                    have h := H.out
                    by_cases hc : (a1 < 0 ∨ (L.length : Int) ≤ a1 ∨ a2 < 0 ∨ (l0.length : Int) ≤ a2) → r2 = 2
                    · simp only [if_pos hc] at h
                      by_cases hj1 : j = 1
                      · simp only [if_pos hj1] at h
                        obtain ⟨tp2, h5, h⟩ := Option.bind_eq_some_iff.1 h
                        obtain ⟨b, h6, h⟩ := Option.bind_eq_some_iff.1 h
                        by_cases hb : b = true
                        · subst hb
                          have H5 := Aside0.mk h5
                          have H6 := Aside0.mk h6
                          have hj1' := hj1
                          subst hj1'
                          have q7 : (((1 : Nat) : Int) == 1) = true := rfl
                          clear h h5 h6 hj1 q1 q2 q3
                          have hLb := HL.out
                          have hl20 := HLP.out.2
                          by_cases x1 : a1 < 0
                          · have g1 : decide (a1 < 0) = true := decide_eq_true x1
                            have hr2 := hc (.inl x1)
                            subst hr2
                            clear hc x1
                            go_wp2_with (first
                              | (go_at_call 10; (with_reducible refine (hk_Levels.calls g (hk_ofs l0) L _ HT.out).mono ?_); rintro e w4 ⟨rfl, hb4⟩; have HT4 := Aside0.mk (hk_T.below HT.out hb4); have HB4 := Aside0.mk (below_step HB.out hb4); have HR4 := Aside0.mk (Kd.C_below HR.out hb4); clear HT HB HR hb4)
                              | (go_at_call 11; (with_reducible refine (hk_Node.calls g (hk_ofs l0) L a1 a2 r1 2 _ HT4.out H4.out).mono ?_); rintro e w5 ⟨Aq, cq, rfl, _, _, hb5⟩; have HT5 := Aside0.mk (hk_T.below HT4.out hb5); have HB5 := Aside0.mk (below_step HB4.out hb5); have HR5 := Aside0.mk (Kd.C_below HR4.out hb5); clear HT4 HB4 HR4 hb5)
                              | (go_at_call 15; (with_reducible refine (hk_Top.calls g (hk_ofs l0) L tp2 _ HT5.out H5.out).mono ?_); rintro e w6 ⟨Az, cz, rfl, hzl, hzr, hb6⟩; have HB6 := Aside0.mk (below_step HB5.out hb6); have HR6 := Aside0.mk (Kd.C_below HR5.out hb6))
                              | (go_at_call 14; (with_reducible refine (abacistref04_Same.calls K Az cz tp2 A c tp true _ hzr hzl HR6.out HC.out H6.out).mono ?_); rintro e w7 ⟨rfl, hd7⟩))
                            go_ret
                            exact ⟨rfl, below_step HB6.out hd7.below⟩
                          · have g1 : decide (a1 < 0) = false := decide_eq_false x1
                            by_cases x2 : (L.length : Int) ≤ a1
                            · have g2 : decide ((L.length : Int) ≤ a1) = true := decide_eq_true x2
                              have hr2 := hc (.inr (.inl x2))
                              subst hr2
                              clear hc x1 x2
                              go_wp2_with (first
                                | (go_at_call 10; (with_reducible refine (hk_Levels.calls g (hk_ofs l0) L _ HT.out).mono ?_); rintro e w4 ⟨rfl, hb4⟩; have HT4 := Aside0.mk (hk_T.below HT.out hb4); have HB4 := Aside0.mk (below_step HB.out hb4); have HR4 := Aside0.mk (Kd.C_below HR.out hb4); clear HT HB HR hb4)
                                | (go_at_call 11; (with_reducible refine (hk_Node.calls g (hk_ofs l0) L a1 a2 r1 2 _ HT4.out H4.out).mono ?_); rintro e w5 ⟨Aq, cq, rfl, _, _, hb5⟩; have HT5 := Aside0.mk (hk_T.below HT4.out hb5); have HB5 := Aside0.mk (below_step HB4.out hb5); have HR5 := Aside0.mk (Kd.C_below HR4.out hb5); clear HT4 HB4 HR4 hb5)
                                | (go_at_call 10; (with_reducible refine (hk_Levels.calls g (hk_ofs l0) L _ HT5.out).mono ?_); rintro e w9 ⟨rfl, hb9⟩; have HT9 := Aside0.mk (hk_T.below HT5.out hb9); have HB9 := Aside0.mk (below_step HB5.out hb9); have HR9 := Aside0.mk (Kd.C_below HR5.out hb9); clear HT5 HB5 HR5 hb9)
                                | (go_at_call 15; (with_reducible refine (hk_Top.calls g (hk_ofs l0) L tp2 _ HT9.out H5.out).mono ?_); rintro e w6 ⟨Az, cz, rfl, hzl, hzr, hb6⟩; have HB6 := Aside0.mk (below_step HB9.out hb6); have HR6 := Aside0.mk (Kd.C_below HR9.out hb6))
                                | (go_at_call 14; (with_reducible refine (abacistref04_Same.calls K Az cz tp2 A c tp true _ hzr hzl HR6.out HC.out H6.out).mono ?_); rintro e w7 ⟨rfl, hd7⟩))
                              go_ret
                              exact ⟨rfl, below_step HB6.out hd7.below⟩
                            · have g2 : decide ((L.length : Int) ≤ a1) = false := decide_eq_false x2
                              by_cases x3 : a2 < 0
                              · have g3 : decide (a2 < 0) = true := decide_eq_true x3
                                have hr2 := hc (.inr (.inr (.inl x3)))
                                subst hr2
                                clear hc x1 x2 x3
                                go_wp2_with (first
                                  | (go_at_call 10; (with_reducible refine (hk_Levels.calls g (hk_ofs l0) L _ HT.out).mono ?_); rintro e w4 ⟨rfl, hb4⟩; have HT4 := Aside0.mk (hk_T.below HT.out hb4); have HB4 := Aside0.mk (below_step HB.out hb4); have HR4 := Aside0.mk (Kd.C_below HR.out hb4); clear HT HB HR hb4)
                                  | (go_at_call 11; (with_reducible refine (hk_Node.calls g (hk_ofs l0) L a1 a2 r1 2 _ HT4.out H4.out).mono ?_); rintro e w5 ⟨Aq, cq, rfl, _, _, hb5⟩; have HT5 := Aside0.mk (hk_T.below HT4.out hb5); have HB5 := Aside0.mk (below_step HB4.out hb5); have HR5 := Aside0.mk (Kd.C_below HR4.out hb5); clear HT4 HB4 HR4 hb5)
                                  | (go_at_call 10; (with_reducible refine (hk_Levels.calls g (hk_ofs l0) L _ HT5.out).mono ?_); rintro e w9 ⟨rfl, hb9⟩; have HT9 := Aside0.mk (hk_T.below HT5.out hb9); have HB9 := Aside0.mk (below_step HB5.out hb9); have HR9 := Aside0.mk (Kd.C_below HR5.out hb9); clear HT5 HB5 HR5 hb9)
                                  | (go_at_call 15; (with_reducible refine (hk_Top.calls g (hk_ofs l0) L tp2 _ HT9.out H5.out).mono ?_); rintro e w6 ⟨Az, cz, rfl, hzl, hzr, hb6⟩; have HB6 := Aside0.mk (below_step HB9.out hb6); have HR6 := Aside0.mk (Kd.C_below HR9.out hb6))
                                  | (go_at_call 14; (with_reducible refine (abacistref04_Same.calls K Az cz tp2 A c tp true _ hzr hzl HR6.out HC.out H6.out).mono ?_); rintro e w7 ⟨rfl, hd7⟩))
                                go_ret
                                exact ⟨rfl, below_step HB6.out hd7.below⟩
                              · have g3 : decide (a2 < 0) = false := decide_eq_false x3
                                by_cases x4 : (l0.length : Int) ≤ a2
                                · have g4 : decide ((l0.length : Int) ≤ a2) = true := decide_eq_true x4
                                  have hr2 := hc (.inr (.inr (.inr x4)))
                                  subst hr2
                                  clear hc x1 x2 x3 x4
                                  go_wp2_with (first
                                    | (go_at_call 10; (with_reducible refine (hk_Levels.calls g (hk_ofs l0) L _ HT.out).mono ?_); rintro e w4 ⟨rfl, hb4⟩; have HT4 := Aside0.mk (hk_T.below HT.out hb4); have HB4 := Aside0.mk (below_step HB.out hb4); have HR4 := Aside0.mk (Kd.C_below HR.out hb4); clear HT HB HR hb4)
                                    | (go_at_call 11; (with_reducible refine (hk_Node.calls g (hk_ofs l0) L a1 a2 r1 2 _ HT4.out H4.out).mono ?_); rintro e w5 ⟨Aq, cq, rfl, _, _, hb5⟩; have HT5 := Aside0.mk (hk_T.below HT4.out hb5); have HB5 := Aside0.mk (below_step HB4.out hb5); have HR5 := Aside0.mk (Kd.C_below HR4.out hb5); clear HT4 HB4 HR4 hb5)
                                    | (go_at_call 10; (with_reducible refine (hk_Levels.calls g (hk_ofs l0) L _ HT5.out).mono ?_); rintro e w9 ⟨rfl, hb9⟩; have HT9 := Aside0.mk (hk_T.below HT5.out hb9); have HB9 := Aside0.mk (below_step HB5.out hb9); have HR9 := Aside0.mk (Kd.C_below HR5.out hb9); clear HT5 HB5 HR5 hb9)
                                    | (go_at_call 15; (with_reducible refine (hk_Top.calls g (hk_ofs l0) L tp2 _ HT9.out H5.out).mono ?_); rintro e w6 ⟨Az, cz, rfl, hzl, hzr, hb6⟩; have HB6 := Aside0.mk (below_step HB9.out hb6); have HR6 := Aside0.mk (Kd.C_below HR9.out hb6))
                                    | (go_at_call 14; (with_reducible refine (abacistref04_Same.calls K Az cz tp2 A c tp true _ hzr hzl HR6.out HC.out H6.out).mono ?_); rintro e w7 ⟨rfl, hd7⟩))
                                  go_ret
                                  exact ⟨rfl, below_step HB6.out hd7.below⟩
                                · have g4 : decide ((l0.length : Int) ≤ a2) = false := decide_eq_false x4
                                  clear hc x1 x2 x3 x4
                                  go_wp2_with (first
                                    | (go_at_call 10; (with_reducible refine (hk_Levels.calls g (hk_ofs l0) L _ HT.out).mono ?_); rintro e w4 ⟨rfl, hb4⟩; have HT4 := Aside0.mk (hk_T.below HT.out hb4); have HB4 := Aside0.mk (below_step HB.out hb4); have HR4 := Aside0.mk (Kd.C_below HR.out hb4); clear HT HB HR hb4)
                                    | (go_at_call 11; (with_reducible refine (hk_Node.calls g (hk_ofs l0) L a1 a2 r1 r2 _ HT4.out H4.out).mono ?_); rintro e w5 ⟨Aq, cq, rfl, _, _, hb5⟩; have HT5 := Aside0.mk (hk_T.below HT4.out hb5); have HB5 := Aside0.mk (below_step HB4.out hb5); have HR5 := Aside0.mk (Kd.C_below HR4.out hb5); clear HT4 HB4 HR4 hb5)
                                    | (go_at_call 10; (with_reducible refine (hk_Levels.calls g (hk_ofs l0) L _ HT5.out).mono ?_); rintro e w9 ⟨rfl, hb9⟩; have HT9 := Aside0.mk (hk_T.below HT5.out hb9); have HB9 := Aside0.mk (below_step HB5.out hb9); have HR9 := Aside0.mk (Kd.C_below HR5.out hb9); clear HT5 HB5 HR5 hb9)
                                    | (go_at_call 15; (with_reducible refine (hk_Top.calls g (hk_ofs l0) L tp2 _ HT9.out H5.out).mono ?_); rintro e w6 ⟨Az, cz, rfl, hzl, hzr, hb6⟩; have HB6 := Aside0.mk (below_step HB9.out hb6); have HR6 := Aside0.mk (Kd.C_below HR9.out hb6))
                                    | (go_at_call 14; (with_reducible refine (abacistref04_Same.calls K Az cz tp2 A c tp true _ hzr hzl HR6.out HC.out H6.out).mono ?_); rintro e w7 ⟨rfl, hd7⟩))
                                  go_ret
                                  exact ⟨rfl, below_step HB6.out hd7.below⟩
                        · rw [if_neg hb] at h; cases h
                      · simp only [if_neg hj1] at h; cases h
                    · simp only [if_neg hc] at h; cases h
                  · rw [if_neg hm] at hA2
                    have HA3 := Aside0.mk hA2
                    have q4 : (((k : Int) + 1) == (L.length : Int)) = false := beq_eq_false_iff_ne.2 (by omega)
                    have q5 : (((k : Int) + 1) = (L.length : Int)) = False := eq_false (by omega)
                    have q6 : (k + 1 == L.length) = false := beq_eq_false_iff_ne.2 (by omega)
                    have d1 : (0 ≤ (j : Int) + 1) = True := eq_true (by omega)
                    have HI7 := Aside0.mk (show (k + 1) + m = L.length by omega)
                    have HN7 := Aside0.mk (show (j + 1) / 2 ≤ 20 by omega)
                    clear hj hi HJ HI HAJ HA2 hA2 hm
                    go_wp2_with (go_at_call 10; (with_reducible refine (hk_Levels.calls g (hk_ofs l0) L _ HT.out).mono ?_); rintro e w4 ⟨rfl, hb4⟩; have HT4 := Aside0.mk (hk_T.below HT.out hb4); have HB4 := Aside0.mk (below_step HB.out hb4); have HR4 := Aside0.mk (Kd.C_below HR.out hb4); clear hb4)
                    clear q1 q2 q3 q4 q5 q6
                    (try clear d1)
                    go_roundg m
                    case rel => exact ⟨k + 1, (j + 1) / 2, tp, A, c, by first | rfl | go_num, rfl, by go_num, HI7, HA3, HN7, HC, HR4, HT4, HB4⟩
                    case measure => exact Nat.lt_succ_self _
                | succ q =>
                  have hAJ := HAJ.out
                  simp only [abacistlaw33_TreeNodes.l2] at hAJ
                  obtain ⟨⟨pr, pf⟩, hp, hAJ⟩ := Option.bind_eq_some_iff.1 hAJ
                  by_cases hpf : pf = 0
                  · subst hpf
                    simp only [if_true] at hAJ
                    have HP := Aside0.mk hp
                    have hjl : j < n := by omega
                    have hjb : j < 4294967296 := by omega
                    have c1 : decide ((j : Int) < (n : Int)) = true := decide_eq_true (by omega)
                    have c2 : (j < n) = True := eq_true hjl
                    have HJ7 := Aside0.mk (show (j + 1) + q = n by omega)
                    clear hp hj HAJ HJ
                    by_cases hk : k = 0
                    · subst hk
                      simp only [if_true] at hAJ
                      by_cases hjp : j < l0.length
                      · rw [if_pos hjp] at hAJ
                        obtain ⟨s, h5, hAJ⟩ := Option.bind_eq_some_iff.1 hAJ
                        obtain ⟨t3, h6, hAJ⟩ := Option.bind_eq_some_iff.1 hAJ
                        obtain ⟨b, h7, hAJ⟩ := Option.bind_eq_some_iff.1 hAJ
                        by_cases hb : b = true
                        · rw [if_pos hb] at hAJ
                          subst hb
                          obtain ⟨ad9, e9, hx9⟩ := Kd.at_int HR0.out (j : Int) (by omega) (by omega)
                          subst e9
                          rw [Int.toNat_natCast, show rd l0 (j : Int) = l0.getD j 0 by unfold rd; rw [Int.toNat_natCast]] at hx9
                          generalize l0.getD j 0 = z at hx9 h5
                          have HP0 := Aside0.mk (show tree_Tree_Node.f (hk_ofs l0) L 0 (j : Int) = some (pr, 0) from HP.out)
                          have H5 := Aside0.mk h5
                          have H6 := Aside0.mk h6
                          have H7 := Aside0.mk h7
                          have HA7 := Aside0.mk hAJ
                          have HX9 := Aside0.mk hx9
                          have c3 : (0 ≤ (j : Int)) = True := eq_true (by omega)
                          have c4 : ((j : Int) < (l0.length : Int)) = True := eq_true (by omega)
                          have c5 : (j < l0.length) = True := eq_true hjp
                          clear hAJ h5 h6 h7 hjp hjl hx9
                          go_wp2_with (first
                            | (go_at_call 11; (with_reducible refine (hk_Node.calls g (hk_ofs l0) L 0 (j : Int) pr 0 _ HT.out HP0.out).mono ?_); rintro e w5 ⟨Ap, cp, rfl, hpl, hpr, hb5⟩; have HB5 := Aside0.mk (below_step HB.out hb5); have HB55 := Aside0.mk hb5; have hx9 := pw_cell_below (below_alloc HB5.out (.cells #[] 29)) HX9.out)
                            | (go_at_call 12; (with_reducible refine (abacistref02_Sub.calls 0 z s _ H5.out).mono ?_); rintro e w6 ⟨rfl, hd6⟩; have HB6 := Aside0.mk (below_step (below_alloc HB55.out (.cells #[] 29)) hd6.below); have HP6 := Aside0.mk (Kd.C_below (Kd.C_alloc hpr (.cells #[] 29)) hd6.below))
                            | (go_at_call 13; (refine (abacistref07_Mul.calls K A c tp (some ⟨w6.heap.size, 0, none⟩) 2 [s, 1] t3 _ ?sideA HC.out ?sideC ?sideD H6.out).mono ?_); (case sideA => exact Kd.C_alloc (Kd.C_below HR.out HB6.out) _); (case sideC => exact Kd.F_now (hk_lit_F [s, 1] (blk_new _ _) (show (2 : Nat) ≤ 9223372036854775807 by decide))); (case sideD => exact Nat.le_refl 2); rintro e w7 ⟨v7, rfl, hr7, hb7⟩; obtain ⟨A7, c7, rfl⟩ := Kd.R_slice hr7; have HB7 := Aside0.mk (below_step (below_alloc HB6.out _) hb7); have HP7 := Aside0.mk (Kd.C_below (Kd.C_alloc HP6.out _) hb7); have HW7 := Aside0.mk (Kd.C_below (Kd.F_now (hk_lit_F [s, 1] (blk_new w6 _) (show (2 : Nat) ≤ 9223372036854775807 by decide))) hb7))
                            | (go_at_call 14; (refine (abacistref04_Same.calls K Ap cp pr (some ⟨w6.heap.size, 0, none⟩) 2 [s, 1] true _ HP7.out hpl HW7.out (Nat.le_refl 2) H7.out).mono ?_); rintro e w8 ⟨rfl, hd8⟩))
                          have HB8 := Aside0.mk (below_step HB7.out hd8.below)
                          have HT8 := Aside0.mk (hk_T.below HT.out HB8.out)
                          have HB9 := Aside0.mk (below_step HB.out HB8.out)
                          have HR8 := Aside0.mk (Kd.C_below (Kd.R_reads' hr7).2.2 hd8.below)
                          have HC8 := Aside0.mk (Kd.R_reads' hr7).2.1
                          clear hr7 hb7 hd8 hd6 HB7 HB6 HB55 HB5 hb5 hx9 HB HT HR HC c1 c2 c3 c4 c5
                          go_roundg q
                          case rel => exact ⟨j + 1, t3, A7, c7, rfl, by go_num, HJ7, HA7, HC8, HR8, HT8, HB9⟩
                          case measure => exact Nat.lt_succ_self _
                        · rw [if_neg hb] at hAJ; cases hAJ
                      · rw [if_neg hjp] at hAJ; cases hAJ
                    · simp only [if_neg hk] at hAJ
                      obtain ⟨⟨ar, af⟩, h5, hAJ⟩ := Option.bind_eq_some_iff.1 hAJ
                      obtain ⟨⟨br, bf⟩, h6, hAJ⟩ := Option.bind_eq_some_iff.1 hAJ
                      by_cases haf : af = 0
                      · subst haf
                        simp only [if_true] at hAJ
                        have c3 : ((k : Int) == 0) = false := beq_eq_false_iff_ne.2 (by omega)
                        have c4 : ((k : Int) = 0) = False := eq_false (by omega)
                        have c5 : (k == 0) = false := beq_eq_false_iff_ne.2 hk
                        have hk1 : (1 : Int) ≤ (k : Int) := by omega
                        have H5 := Aside0.mk h5
                        have H6 := Aside0.mk h6
                        by_cases hbf : bf = 0
                        · subst hbf
                          simp only [if_true] at hAJ
                          obtain ⟨want, h7, hAJ⟩ := Option.bind_eq_some_iff.1 hAJ
                          obtain ⟨b, h8, hAJ⟩ := Option.bind_eq_some_iff.1 hAJ
                          by_cases hb : b = true
                          · rw [if_pos hb] at hAJ
                            subst hb
                            have H7 := Aside0.mk h7
                            have H8 := Aside0.mk h8
                            have HA7 := Aside0.mk hAJ
                            clear hAJ h5 h6 h7 h8 hjl hk
                            go_wp2_with (first
                              | (go_at_call 11; (with_reducible refine (hk_Node.calls g (hk_ofs l0) L (k : Int) (j : Int) pr 0 _ HT.out HP.out).mono ?_); rintro e w5 ⟨Ap, cp, rfl, hpl, hpr, hb5⟩; have HB5 := Aside0.mk hb5; have HP5 := Aside0.mk hpr)
                              | (go_at_call 11; (with_reducible refine (hk_Node.calls g (hk_ofs l0) L ((k : Int) - 1) (2 * (j : Int)) ar 0 _ (hk_T.below HT.out (below_alloc HB5.out (.cells #[] 29))) H5.out).mono ?_); rintro e w6 ⟨Aa, ca, rfl, hal, har, hb6⟩; have HB6 := Aside0.mk (below_step (below_alloc HB5.out (.cells #[] 29)) hb6); have HP6 := Aside0.mk (Kd.C_below (Kd.C_alloc HP5.out (.cells #[] 29)) hb6))
                              | (go_at_call 11; (with_reducible refine (hk_Node.calls g (hk_ofs l0) L ((k : Int) - 1) (2 * (j : Int) + 1) br 0 _ (hk_T.below HT.out HB6.out) H6.out).mono ?_); rintro e w7 ⟨Ab, cb, rfl, hbl, hbr, hb7⟩; have HB7 := Aside0.mk (below_step HB6.out hb7); have HP7 := Aside0.mk (Kd.C_below HP6.out hb7); have HQ7 := Aside0.mk (Kd.C_below har hb7))
                              | (go_at_call 13; (with_reducible refine (abacistref07_Mul.calls K Aa ca ar Ab cb br want _ HQ7.out hal hbr hbl H7.out).mono ?_); rintro e w8 ⟨v8, rfl, hr8, hb8⟩; obtain ⟨A8, c8, rfl⟩ := Kd.R_slice hr8; have HB8 := Aside0.mk (below_step HB7.out hb8); have HP8 := Aside0.mk (Kd.C_below HP7.out hb8))
                              | (go_at_call 14; (with_reducible refine (abacistref04_Same.calls K Ap cp pr A8 c8 want true _ HP8.out hpl (Kd.R_reads' hr8).2.2 (Kd.R_reads' hr8).2.1 H8.out).mono ?_); rintro e w9 ⟨rfl, hd9⟩))
                            have HB9 := Aside0.mk (below_step HB8.out hd9.below)
                            have HT9 := Aside0.mk (hk_T.below HT.out HB9.out)
                            have HR9 := Aside0.mk (Kd.C_below HR.out HB9.out)
                            have HB10 := Aside0.mk (below_step HB.out HB9.out)
                            clear hr8 hb8 hd9 HB8 HB7 HB6 HB5 hb5 hb6 hb7 HB HT HR c1 c2 c3 c4 c5 hk1 HB9
                            go_roundg q
                            case rel => exact ⟨j + 1, tp, A, c, rfl, by go_num, HJ7, HA7, HC, HR9, HT9, HB10⟩
                            case measure => exact Nat.lt_succ_self _
                          · rw [if_neg hb] at hAJ; cases hAJ
                        · rw [if_neg hbf] at hAJ
                          by_cases hbf2 : bf = 2
                          · subst hbf2
                            simp only [if_true] at hAJ
                            obtain ⟨b, h8, hAJ⟩ := Option.bind_eq_some_iff.1 hAJ
                            by_cases hb : b = true
                            · rw [if_pos hb] at hAJ
                              subst hb
                              have H8 := Aside0.mk h8
                              have HA7 := Aside0.mk hAJ
                              clear hAJ h5 h6 h8 hjl hk hbf
                              go_wp2_with (first
                                | (go_at_call 11; (with_reducible refine (hk_Node.calls g (hk_ofs l0) L (k : Int) (j : Int) pr 0 _ HT.out HP.out).mono ?_); rintro e w5 ⟨Ap, cp, rfl, hpl, hpr, hb5⟩; have HB5 := Aside0.mk hb5; have HP5 := Aside0.mk hpr)
                                | (go_at_call 11; (with_reducible refine (hk_Node.calls g (hk_ofs l0) L ((k : Int) - 1) (2 * (j : Int)) ar 0 _ (hk_T.below HT.out (below_alloc HB5.out (.cells #[] 29))) H5.out).mono ?_); rintro e w6 ⟨Aa, ca, rfl, hal, har, hb6⟩; have HB6 := Aside0.mk (below_step (below_alloc HB5.out (.cells #[] 29)) hb6); have HP6 := Aside0.mk (Kd.C_below (Kd.C_alloc HP5.out (.cells #[] 29)) hb6))
                                | (go_at_call 11; (with_reducible refine (hk_Node.calls g (hk_ofs l0) L ((k : Int) - 1) (2 * (j : Int) + 1) br 2 _ (hk_T.below HT.out HB6.out) H6.out).mono ?_); rintro e w7 ⟨Ab, cb, rfl, hbl, hbr, hb7⟩; have HB7 := Aside0.mk (below_step HB6.out hb7); have HP7 := Aside0.mk (Kd.C_below HP6.out hb7); have HQ7 := Aside0.mk (Kd.C_below har hb7))
                                | (go_at_call 14; (with_reducible refine (abacistref04_Same.calls K Ap cp pr Aa ca ar true _ HP7.out hpl HQ7.out hal H8.out).mono ?_); rintro e w9 ⟨rfl, hd9⟩))
                              have HB9 := Aside0.mk (below_step HB7.out hd9.below)
                              have HT9 := Aside0.mk (hk_T.below HT.out HB9.out)
                              have HR9 := Aside0.mk (Kd.C_below HR.out HB9.out)
                              have HB10 := Aside0.mk (below_step HB.out HB9.out)
                              clear hd9 HB7 HB6 HB5 hb5 hb6 hb7 HB HT HR c1 c2 c3 c4 c5 hk1 HB9
                              go_roundg q
                              case rel => exact ⟨j + 1, tp, A, c, rfl, by go_num, HJ7, HA7, HC, HR9, HT9, HB10⟩
                              case measure => exact Nat.lt_succ_self _
                            · rw [if_neg hb] at hAJ; cases hAJ
                          · rw [if_neg hbf2] at hAJ; cases hAJ
                      · simp only [if_neg haf] at hAJ; cases hAJ
                  · simp only [if_neg hpf] at hAJ; cases hAJ
        · rw [if_neg hL] at h; cases h
  · rw [if_neg hb] at h; cases h
def abacistlaw33_TreeNodes.Pure : Prop := ∀ (l0 : List Int) (a1 : Int) (a2 : Int), l0.length ≤ maxLen → l0.length * 8 ≤ 140737488351232 → (∀ x ∈ l0, (Lit.int .u64 x).wf = true) → (Lit.int .i64 a1).wf = true → (Lit.int .i64 a2).wf = true → ∃ k, abacistlaw33_TreeNodes.f k l0 a1 a2 = some true
theorem abacistlaw33_TreeNodes.walk (P : abacistlaw33_TreeNodes.Pure) (a0 : Option Addr) (len0 cap0 : Nat) (z0 : List Int) (a1 : Int) (a2 : Int) (w : World) (w0 : (a0 = none ∧ len0 = 0 ∧ cap0 = 0 ∧ z0 = []) ∨ ∃ x, a0 = some x ∧ len0 ≤ cap0 ∧ cap0 ≤ maxLen ∧ z0.length = cap0 ∧ (∀ i, i < z0.length → w.cell? (x.add i) = some (.int .u64 (z0.getD i 0))) ∧ ∀ n ∈ z0, (Lit.int .u64 n).wf = true) (y0 : len0 * 8 ≤ 140737488351232) (w1 : (Lit.int .i64 a1).wf = true) (w2 : (Lit.int .i64 a2).wf = true) :
    Calls Try.prog 3 #[.slice a0 len0 cap0, .int .i64 a1, .int .i64 a2] w fun e w' => e = .returned (.bool true) ∧ Below w.heap.size w w' := by
  obtain ⟨l0, rfl, hr0, hm0, hw0, hc0⟩ := ReadsInt.ofRowC w0
  obtain ⟨k, h⟩ := P l0 a1 a2 hm0 y0 hw0 w1 w2
  exact abacistlaw33_TreeNodes.calls k _ _ l0 a1 a2 w (Kd.C_of_reads (d := (0 : Int)) (h1 := fun _ => rfl) hr0) hc0 h

end Go.Proofs.Ytkgakohgbbapaaa.PTreeNodes
