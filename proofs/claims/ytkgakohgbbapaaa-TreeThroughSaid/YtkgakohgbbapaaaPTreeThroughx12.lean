-- Written for this claim by wip/gen/mk.sh, this session's own driver over the kit's print
import Derived.Test.YtkgakohgbbapaaaPTreeThroughx0
import Derived.Test.YtkgakohgbbapaaaPTreeThroughx1
import Derived.Test.YtkgakohgbbapaaaPTreeThroughx3
import Derived.Test.YtkgakohgbbapaaaPTreeThroughx5
import Derived.Test.YtkgakohgbbapaaaPTreeThroughx6
import Derived.Test.YtkgakohgbbapaaaPTreeThroughx9
import Derived.Test.YtkgakohgbbapaaaPTreeThroughx11
namespace Go.Proofs.Ytkgakohgbbapaaa.PTreeThrough
open Go.RowKit Go.Proofs.YtkgakohgbbapaaaW.PrintWords Go.Proofs.YtkgakohgbbapaaaW.PrintLast Go.Proofs.YtkgakohgbbapaaaW.PrintMore
attribute [local go_sem] max2_int min2_int max_two min_two max_three min_three max_four min_four   -- for this text's walks alone
set_option linter.unusedVariables false
set_option linter.unusedSimpArgs false

/-! ### gold_Invs: function 34 -/
mutual
def gold_Invs.l0 : Nat → List Int → List Int → Int → List Int → Int → Int → Option (List Int × Int × Int)
  | 0, _, _, _, _, _, _ => none
  | k + 1, x0, x5, x6, x14, x15, x16 => if x16 < x15 then (if 0 ≤ x16 then (if x16 < (x14.length : Int) then ((gold_Of.f (rd x14 x16)).bind fun t361 => (if t361 = 0 then (some (([] : List Int), x16, 13)) else ((gold_Mul.f x6 (rd x14 x16)).bind fun t362 => (if x16 < (x5.length : Int) then (gold_Invs.l0 k x0 (x5.set (x16 : Int).toNat x6) t362 x14 x15 (wrap64 (x16 + 1))) else (none))))) else (none)) else (none)) else ((gold_Inv.f k x6).bind fun bt364 => (if bt364.2 = 0 then (if 0 ≤ (x0.length : Int) then (if ((x0.length : Int) : Int).toNat ≤ 35184372088832 then (gold_Invs.l1 k x0 (List.replicate ((x0.length : Int) : Int).toNat 0) x5 bt364.1 (wrap64 ((x0.length : Int) - 1))) else (none)) else (none)) else (some (([] : List Int), 0, bt364.2))))
def gold_Invs.l1 : Nat → List Int → List Int → List Int → Int → Int → Option (List Int × Int × Int)
  | 0, _, _, _, _, _ => none
  | k + 1, x0, x2, x5, x9, x10 => if x10 ≥ 0 then (if 0 ≤ x10 then (if x10 < (x5.length : Int) then ((gold_Mul.f x9 (rd x5 x10)).bind fun t370 => (if x10 < (x0.length : Int) then ((gold_Mul.f x9 (rd x0 x10)).bind fun t372 => (if x10 < (x2.length : Int) then (gold_Invs.l1 k x0 (x2.set (x10 : Int).toNat t370) x5 t372 (wrap64 (x10 - 1))) else (none))) else (none))) else (none)) else (none)) else (some (x2, 0, 0))
end
def gold_Invs.f (k : Nat) (l0 : List Int) : Option (List Int × Int × Int) := if 0 ≤ (l0.length : Int) then (if ((l0.length : Int) : Int).toNat ≤ 35184372088832 then (gold_Invs.l0 k l0 (List.replicate ((l0.length : Int) : Int).toNat 0) 1 l0 (l0.length : Int) 0) else (none)) else (none)
def gold_Invs.T17 : Bool × List (List Nat × List Nat) := (true, [([], []), ([], []), ([], []), ([], []), ([], []), ([3, 4], [3, 4]), ([5], [5]), ([2, 6], [2, 6]), ([], []), ([], []), ([], []), ([9, 10], [9, 10]), ([11], [11]), ([8, 12, 7], [8, 12]), ([0, 1, 0, 1, 2, 3, 4, 5, 6, 7, 12, 13], [0, 1]), ([14, 7, 13, 0, 1, 2, 3, 4, 5, 6, 7, 12, 13], [7, 14]), ([13, 15, 0, 1, 2, 3, 4, 5, 6, 7, 8, 9, 10, 11, 12, 13, 14, 15], [2, 8, 13])])
def gold_Invs.B17 : List Nat := [0, 0, 0, 0, 0, 24, 56, 124, 0, 0, 0, 1536, 3584, 8188, 16383, 32767, 65535]
theorem gold_Invs.tab17 : rtab .any (opsOf Try.f34 17) = gold_Invs.T17 := by kernel_rfl
theorem gold_Invs.bits17 : waitsOk gold_Invs.T17.2 gold_Invs.B17 = true := by kernel_rfl
set_option maxHeartbeats 80000000 in
set_option maxRecDepth 100000 in
theorem gold_Invs.calls (k : Nat) (A0 : Option Addr) (c0 : Nat) (l0 : List Int) (r1 : List Int) (r2 : Int) (r3 : Int) (w : World) (hr0 : Kd.C (Kd.int .u64) w A0 l0.length l0) (hc0 : l0.length ≤ c0) (h : gold_Invs.f k l0 = some (r1, r2, r3)) :
    Calls Try.prog 34 #[.slice A0 l0.length c0] w fun e w' => ∃ v0_ : Value, e = .returned (.tuple #[v0_, .int .i64 r2, .int .i64 r3]) ∧ Kd.R (Kd.int .u64) 29 w' w.heap.size (fun _ => True) v0_ r1 ∧ Below w.heap.size w w' := by
  have HR0 := Aside0.mk hr0
  have HC0 := Aside0.mk hc0
  clear hr0 hc0
  have HB := Aside0.mk (Below.refl w.heap.size w)
  have H : (if 0 ≤ (l0.length : Int) then (if ((l0.length : Int) : Int).toNat ≤ 35184372088832 then (gold_Invs.l0 k l0 (List.replicate ((l0.length : Int) : Int).toNat 0) 1 l0 (l0.length : Int) 0) else (none)) else (none)) = some (r1, r2, r3) := h
  clear h
  by_cases c2 : 0 ≤ (l0.length : Int)
  · rw [if_pos c2] at H
    have c2b0 := eq_true c2
    have LTc2 := Aside0.mk (show (((l0.take (0 : Int).toNat).length : Int) = max 0 0) by rw [List.length_take]; omega)
    (try (have LDc2 := Aside0.mk (show ∀ lo_ : Nat, (((l0.take (0 : Int).toNat).drop lo_).length : Int) = (((0 : Int).toNat - lo_ : Nat) : Int) from fun lo_ => by rw [List.length_drop, List.length_take]; omega)))
    have c2b1 : decide (0 ≤ (l0.length : Int)) = true := decide_eq_true c2
    clear c2
    by_cases c3 : ((l0.length : Int) : Int).toNat ≤ 35184372088832
    · rw [if_pos c3] at H
      have c3b0 := eq_true c3
      have c3b1 : decide (((l0.length : Int) : Int).toNat ≤ 35184372088832) = true := decide_eq_true c3
      clear c3
      obtain ⟨y357, hy357⟩ : ∃ y_ : List Int, y_ = (List.replicate ((l0.length : Int) : Int).toNat 0) := ⟨_, rfl⟩
      replace H : (gold_Invs.l0 k l0 y357 1 l0 (l0.length : Int) 0) = some (r1, r2, r3) := by first | (rw [hy357]; with_reducible exact H) | (have H2_ := (Option.bind_some _ _).symm.trans H; rw [hy357]; with_reducible exact H2_) | (have H2_ := (Option.bind_some _ _).symm.trans H; with_reducible exact H2_) | with_reducible exact H | (rw [hy357]; exact H) | exact H
      have Ny357 := Aside0.mk hy357
      clear hy357
      have H' := Aside0.mk H
      clear H
      go_enter Try.func34, Try.ntmps34
      go_wp2_with (first | ((with_reducible refine gate_dst (N := 13) rfl ?_); refine Kd.R_make (Kd.int .u64) _ 29 rfl (N := 13) rfl 22 _ _ rfl (l0.length : Int) rfl rfl Try.underlying22 (.int .u64 0) 8 info29 rfl (by decide) (by omega) 0 (ok := fun _ => True) (okp := fun _ => True) rfl (fun _ hk => hk) trivial (of_decide_eq_true (by first | (with_reducible assumption) | assumption)) (Nat.le_trans (Nat.mul_le_mul_right _ (of_decide_eq_true (by first | (with_reducible assumption) | assumption) : (l0.length : Int).toNat ≤ 35184372088832)) (by omega)) (Below.refl _ _) (Nat.le_refl _) ?_; intro v358 w4 ho5 hb hg_ hnew_; clear hg_ hnew_; (first | rw [← Ny357.out] at ho5 | (simp only [Int.reduceToNat] at ho5; rw [← Ny357.out] at ho5)); have n0_ := Aside0.mk (Kd.R_lower ho5 (below_size (by repeat (first | (with_reducible first | exact HB.out | apply below_alloc | apply pw_below_drewN | apply below_drew1) | exact HB.out)))); have n1_ := Aside0.mk (below_step (by repeat (first | (with_reducible first | exact HB.out | apply below_alloc | apply pw_below_drewN | apply below_drew1) | exact HB.out)) hb); clear HB; have HO359 := n0_; have HB := n1_; clear n0_ n1_; clear hb ho5))
      go_loopg [6, 16] k (fun kq v6 v16 w' => ∃ (x5_1 : List Int) (x6_1 : Int) (x16_1 : Int), v6 = .int .u64 x6_1 ∧ v16 = .int .i64 x16_1 ∧ Aside0 (gold_Invs.l0 kq l0 x5_1 x6_1 l0 (l0.length : Int) x16_1 = some (r1, r2, r3)) ∧ Aside0 (kq ≤ k) ∧ Aside0 (Kd.R (Kd.int .u64) 29 w' w.heap.size (fun _ => True) v358 x5_1) ∧ Aside0 (Below w.heap.size w w'))
      case atStart => exact ⟨(y357), (1), (0), (by first | rfl | (simp; done) | (simp [*]; done)), (by first | rfl | (simp; done) | (simp [*]; done)), H', ⟨Nat.le_refl _⟩, ⟨by (with_reducible repeat (first | apply Kd.R_alloc | apply Kd.R_drewN | apply Kd.R_drew)); exact HO359.out⟩, ⟨by repeat (first | (with_reducible first | exact HB.out | apply below_alloc | apply pw_below_drewN | apply below_drew1) | exact HB.out)⟩⟩
      case round =>
        clear H'
        try clear c2
        try clear c2b0
        try clear c2b1
        try clear p2
        try clear c3
        try clear c3b0
        try clear c3b1
        obtain ⟨x5_1, x6_1, x16_1, rfl, rfl, HA, HK1, HO_5, HB⟩ := hrel
        cases gk with
        | zero => exact absurd HA.out (by simp [gold_Invs.l0])
        | succ k1 =>
          have H := HA.out
          clear HA
          simp only [gold_Invs.l0] at H
          by_cases c6 : x16_1 < (l0.length : Int)
          · rw [if_pos c6] at H
            have c6b0 : decide (x16_1 < (l0.length : Int)) = true := decide_eq_true c6
            (try (have c6b0_0 := c6b0; rw [LTc2.out] at c6b0_0))
            (try (have c6b0_0p := eq_true (of_decide_eq_true c6b0_0)))
            (try (have c6b0_1 := c6b0; rw [LDc2.out] at c6b0_1))
            (try (have c6b0_1p := eq_true (of_decide_eq_true c6b0_1)))
            clear c6
            by_cases c7 : 0 ≤ x16_1
            · rw [if_pos c7] at H
              have c7b0 : decide (0 ≤ x16_1) = true := decide_eq_true c7
              clear c7
              by_cases c8 : x16_1 < (l0.length : Int)
              · rw [if_pos c8] at H
                have c8b0 : decide (x16_1 < (l0.length : Int)) = true := decide_eq_true c8
                (try (have c8b0_0 := c8b0; rw [LTc2.out] at c8b0_0))
                (try (have c8b0_0p := eq_true (of_decide_eq_true c8b0_0)))
                (try (have c8b0_1 := c8b0; rw [LDc2.out] at c8b0_1))
                (try (have c8b0_1p := eq_true (of_decide_eq_true c8b0_1)))
                clear c8
                replace H := Option.bind_eq_some_iff.mp H
                obtain ⟨t361, A90, H⟩ := H
                replace H : (if t361 = 0 then (some (([] : List Int), x16_1, 13)) else ((gold_Mul.f x6_1 (rd l0 x16_1)).bind fun t362 => (if x16_1 < (x5_1.length : Int) then (gold_Invs.l0 k1 l0 (x5_1.set (x16_1 : Int).toNat x6_1) t362 l0 (l0.length : Int) (wrap64 (x16_1 + 1))) else (none)))) = some (r1, r2, r3) := H
                have A9 := Aside0.mk A90
                clear A90
                by_cases c10 : t361 = 0
                · rw [if_pos c10] at H
                  have c10b0 : (t361 == 0) = true := beq_iff_eq.mpr c10
                  have c10b1 : (t361 != 0) = false := bne_eq_false_iff_eq.mpr c10
                  clear c10
                  simp only [Option.some.injEq, Prod.mk.injEq] at H
                  obtain ⟨rfl, rfl, rfl⟩ := H
                  have p360 : 0 ≤ (x16_1 : Int) := of_decide_eq_true (by first | (with_reducible assumption) | assumption)
                  have q360 : x16_1 < (l0.length : Int) := of_decide_eq_true (by first | (with_reducible assumption) | assumption)
                  obtain ⟨ad360, e360, hx360_0⟩ := Kd.at_int HR0.out x16_1 p360 q360
                  cases e360
                  replace hx360_0 := (HB.out.cell (World.block_lt_of_cell? w _ hx360_0)).trans hx360_0
                  replace p360 := eq_true p360
                  replace q360 := eq_true q360
                  go_wp2_with (first | ((with_reducible refine gate_callee (f := 23) rfl ?_); refine goesL_ (some 22) rfl rfl Try.func23 (by kernel_rfl) rfl #[.int .u64 (rd l0 x16_1)] rfl (by (try simp only [List.map_toArray, List.map_cons, List.map_nil]); first | done | rfl | (simp only [List.length_drop, List.length_take]; rfl)) ?_; (with_reducible refine (gold_Of.calls (rd l0 x16_1) t361 _ A9.out).mono ?_); rintro e w' ⟨rfl, ⟨nd, rfl⟩⟩; refine ⟨_, rfl, ?_⟩) | (go_at_call 23; (with_reducible refine (gold_Of.calls (rd l0 x16_1) t361 _ A9.out).mono ?_); rintro e w' ⟨rfl, ⟨nd, rfl⟩⟩))
                  go_ret3
                  exact ⟨_, by first | rfl | (simp [errW_none, errW_some] <;> rfl) | (simp [*, errW_none, errW_some] <;> rfl), by first | exact Kd.R_nil _ _ _ _ _ | exact Kd.N_nil _ _ _ _ _ | exact Kd.V_nil _ _ _ _ _ | exact Kd.Q_nil _ _ _ _ _ | exact Kd.S_nil _ _ _ _ _, by repeat (first | (with_reducible first | exact HB.out | apply below_alloc | apply pw_below_drewN | apply below_drew1) | exact HB.out)⟩
                · rw [if_neg c10] at H
                  have c10b0 : (t361 == 0) = false := beq_eq_false_iff_ne.mpr c10
                  have c10b1 : (t361 != 0) = true := bne_iff_ne.mpr c10
                  replace H := Option.bind_eq_some_iff.mp H
                  obtain ⟨t362, A110, H⟩ := H
                  replace H : (if x16_1 < (x5_1.length : Int) then (gold_Invs.l0 k1 l0 (x5_1.set (x16_1 : Int).toNat x6_1) t362 l0 (l0.length : Int) (wrap64 (x16_1 + 1))) else (none)) = some (r1, r2, r3) := H
                  have A11 := Aside0.mk A110
                  clear A110
                  by_cases c12 : x16_1 < (x5_1.length : Int)
                  · rw [if_pos c12] at H
                    have c12b0 : decide (x16_1 < (x5_1.length : Int)) = true := decide_eq_true c12
                    (try (have c12b0_0 := c12b0; rw [LTc2.out] at c12b0_0))
                    (try (have c12b0_0p := eq_true (of_decide_eq_true c12b0_0)))
                    (try (have c12b0_1 := c12b0; rw [LDc2.out] at c12b0_1))
                    (try (have c12b0_1p := eq_true (of_decide_eq_true c12b0_1)))
                    clear c12
                    obtain ⟨y363, hy363⟩ : ∃ y_ : List Int, y_ = (x5_1.set (x16_1 : Int).toNat x6_1) := ⟨_, rfl⟩
                    replace H : (gold_Invs.l0 k1 l0 y363 t362 l0 (l0.length : Int) (wrap64 (x16_1 + 1))) = some (r1, r2, r3) := by first | (rw [hy363]; with_reducible exact H) | (have H2_ := (Option.bind_some _ _).symm.trans H; rw [hy363]; with_reducible exact H2_) | (have H2_ := (Option.bind_some _ _).symm.trans H; with_reducible exact H2_) | with_reducible exact H | (rw [hy363]; exact H) | exact H
                    have Ny363 := Aside0.mk hy363
                    clear hy363
                    have H' := Aside0.mk H
                    clear H
                    have p360 : 0 ≤ (x16_1 : Int) := of_decide_eq_true (by first | (with_reducible assumption) | assumption)
                    have q360 : x16_1 < (l0.length : Int) := of_decide_eq_true (by first | (with_reducible assumption) | assumption)
                    obtain ⟨ad360, e360, hx360_0⟩ := Kd.at_int HR0.out x16_1 p360 q360
                    cases e360
                    replace hx360_0 := (HB.out.cell (World.block_lt_of_cell? w _ hx360_0)).trans hx360_0
                    replace p360 := eq_true p360
                    replace q360 := eq_true q360
                    go_wp2_with (first | ((with_reducible refine gate_callee (f := 23) rfl ?_); refine goesL_ (some 22) rfl rfl Try.func23 (by kernel_rfl) rfl #[.int .u64 (rd l0 x16_1)] rfl (by (try simp only [List.map_toArray, List.map_cons, List.map_nil]); first | done | rfl | (simp only [List.length_drop, List.length_take]; rfl)) ?_; (with_reducible refine (gold_Of.calls (rd l0 x16_1) t361 _ A9.out).mono ?_); rintro e w' ⟨rfl, ⟨nd, rfl⟩⟩; refine ⟨_, rfl, ?_⟩; (try (rw [drewN_self wr]; generalize hq_ : World.drewN wr _ = wr; have n0_ : Aside0 (Kd.R (Kd.int .u64) 29 wr w.heap.size (fun _ => True) v358 x5_1) := ⟨by rw [← hq_]; exact (by (with_reducible repeat (first | apply Kd.R_alloc | apply Kd.R_drewN | apply Kd.R_drew)); exact HO_5.out)⟩; have n1_ : Aside0 (Below w.heap.size w wr) := ⟨by rw [← hq_]; exact (by repeat (first | (with_reducible first | exact HB.out | apply below_alloc | apply pw_below_drewN | apply below_drew1) | exact HB.out))⟩; clear HO_5 HB hq_; have HO_5 := n0_; have HB := n1_; clear n0_ n1_))) | (go_at_call 23; (with_reducible refine (gold_Of.calls (rd l0 x16_1) t361 _ A9.out).mono ?_); rintro e w' ⟨rfl, ⟨nd, rfl⟩⟩; (try (rw [drewN_self wr]; generalize hq_ : World.drewN wr _ = wr; have n0_ : Aside0 (Kd.R (Kd.int .u64) 29 wr w.heap.size (fun _ => True) v358 x5_1) := ⟨by rw [← hq_]; exact (by (with_reducible repeat (first | apply Kd.R_alloc | apply Kd.R_drewN | apply Kd.R_drew)); exact HO_5.out)⟩; have n1_ : Aside0 (Below w.heap.size w wr) := ⟨by rw [← hq_]; exact (by repeat (first | (with_reducible first | exact HB.out | apply below_alloc | apply pw_below_drewN | apply below_drew1) | exact HB.out))⟩; clear HO_5 HB hq_; have HO_5 := n0_; have HB := n1_; clear n0_ n1_))) | ((with_reducible refine gate_callee (f := 28) rfl ?_); refine goesL_ (some 30) rfl rfl Try.func28 (by kernel_rfl) rfl #[.int .u64 x6_1, .int .u64 (rd l0 x16_1)] rfl (by (try simp only [List.map_toArray, List.map_cons, List.map_nil]); first | done | rfl | (simp only [List.length_drop, List.length_take]; rfl)) ?_; (with_reducible refine (gold_Mul.calls x6_1 (rd l0 x16_1) t362 _ A11.out).mono ?_); rintro e w14 ⟨rfl, hb⟩; refine ⟨_, rfl, ?_⟩; have n0_ := Aside0.mk (Kd.R_below (by (with_reducible repeat (first | apply Kd.R_alloc | apply Kd.R_drewN | apply Kd.R_drew)); exact HO_5.out) hb); have n1_ := Aside0.mk (below_step (by repeat (first | (with_reducible first | exact HB.out | apply below_alloc | apply pw_below_drewN | apply below_drew1) | exact HB.out)) hb); clear HO_5; clear HB; have HO_5 := n0_; have HB := n1_; clear n0_ n1_; (try clear hb); (try clear hb2); (try clear hk); (try clear hi); have p13 : 0 ≤ (x16_1 : Int) := of_decide_eq_true (by first | (with_reducible assumption) | assumption); have q13 : (x16_1 : Int) < ((x5_1.length : Int) : Int) := of_decide_eq_true (by first | (with_reducible assumption) | assumption); obtain ⟨go13, co13, eo13, gb13, gl13, cl13, HG13⟩ := Kd.R_form HO_5.out (by omega); (first | cases eo13 | (injection eo13 with ea_ en_ ec_; (first | subst ea_ | (injection ea_ with ea_; subst ea_)); subst ec_; clear en_)); have GB13 := Aside0.mk gb13; have GG13 := Aside0.mk HG13; clear gb13 gl13 HG13; obtain ⟨hx13_0, hf13_0⟩ := Kd.R_celln 0 HO_5.out (x16_1 : Int) p13 q13; replace p13 := eq_true p13; replace q13 := eq_true q13; obtain ⟨hy15_, hz15_⟩ := Kd.R_celln 0 HO_5.out (x16_1 : Int) (of_decide_eq_true (by first | (with_reducible assumption) | assumption)) (of_decide_eq_true (by first | (with_reducible assumption) | assumption)); have HP15 := Kd.R_putg HO_5.out (x16_1 : Int) x6_1) | (go_at_call 28; (with_reducible refine (gold_Mul.calls x6_1 (rd l0 x16_1) t362 _ A11.out).mono ?_); rintro e w14 ⟨rfl, hb⟩; have n0_ := Aside0.mk (Kd.R_below (by (with_reducible repeat (first | apply Kd.R_alloc | apply Kd.R_drewN | apply Kd.R_drew)); exact HO_5.out) hb); have n1_ := Aside0.mk (below_step (by repeat (first | (with_reducible first | exact HB.out | apply below_alloc | apply pw_below_drewN | apply below_drew1) | exact HB.out)) hb); clear HO_5; clear HB; have HO_5 := n0_; have HB := n1_; clear n0_ n1_; (try clear hb); (try clear hb2); (try clear hk); (try clear hi); have p13 : 0 ≤ (x16_1 : Int) := of_decide_eq_true (by first | (with_reducible assumption) | assumption); have q13 : (x16_1 : Int) < ((x5_1.length : Int) : Int) := of_decide_eq_true (by first | (with_reducible assumption) | assumption); obtain ⟨go13, co13, eo13, gb13, gl13, cl13, HG13⟩ := Kd.R_form HO_5.out (by omega); (first | cases eo13 | (injection eo13 with ea_ en_ ec_; (first | subst ea_ | (injection ea_ with ea_; subst ea_)); subst ec_; clear en_)); have GB13 := Aside0.mk gb13; have GG13 := Aside0.mk HG13; clear gb13 gl13 HG13; obtain ⟨hx13_0, hf13_0⟩ := Kd.R_celln 0 HO_5.out (x16_1 : Int) p13 q13; replace p13 := eq_true p13; replace q13 := eq_true q13; obtain ⟨hy15_, hz15_⟩ := Kd.R_celln 0 HO_5.out (x16_1 : Int) (of_decide_eq_true (by first | (with_reducible assumption) | assumption)) (of_decide_eq_true (by first | (with_reducible assumption) | assumption)); have HP15 := Kd.R_putg HO_5.out (x16_1 : Int) x6_1) | ((with_reducible refine gate_store (t := 29) (p := 31) rfl ?_); refine store_event (t := 29) (p := 31) (v := ?vo_w16) (w1 := (w14.setCell ⟨go13, (x16_1 : Int).toNat, none⟩ (.int .u64 x6_1))) ?hg ?ho ?hn ?hr ?_; (case ho => rfl); (case hg => rfl); (case hn => rfl); (case hr => first | (go_simp; done) | (go_simp; rfl)); intro w16 hw; have hg : w14.grownBy w16 (some go13) := (by rw [hw]; exact HP15.2); have hp_ : Kd.R (Kd.int .u64) 29 w16 w.heap.size (fun _ => True) (.slice (some ⟨go13, 0, none⟩) x5_1.length co13) y363 := (by rw [hw, Ny363.out]; exact HP15.1); clear HP15; have n0_ := Aside0.mk (hp_); have n1_ := Aside0.mk ((by rw [hw]; exact below_set (HB.out) GB13.out : Below w.heap.size w w16)); clear HO_5; clear HB; have HO_5 := n0_; have HB := n1_; clear n0_ n1_; clear hg hw hp_))
                    (first | go_roundg k1 | (simp only [add_plain] at *; go_roundg k1))
                    case measure => have := HK1.out; omega
                    case rel => exact ⟨(y363), (t362), (wrap64 (x16_1 + 1)), (by first | rfl | (simp; done) | (simp [*]; done)), (by first | rfl | (simp; done) | (simp [*]; done)), H', ⟨by have := HK1.out; omega⟩, ⟨by (with_reducible repeat (first | apply Kd.R_alloc | apply Kd.R_drewN | apply Kd.R_drew)); exact HO_5.out⟩, ⟨by repeat (first | (with_reducible first | exact HB.out | apply below_alloc | apply pw_below_drewN | apply below_drew1) | exact HB.out)⟩⟩
                  · rw [if_neg c12] at H
                    exact absurd H (by simp)
              · rw [if_neg c8] at H
                exact absurd H (by simp)
            · rw [if_neg c7] at H
              exact absurd H (by simp)
          · rw [if_neg c6] at H
            have c6b0 : decide (x16_1 < (l0.length : Int)) = false := decide_eq_false c6
            (try (have c6b0_0 := c6b0; rw [LTc2.out] at c6b0_0))
            (try (have c6b0_1 := c6b0; rw [LDc2.out] at c6b0_1))
            clear c6
            replace H := Option.bind_eq_some_iff.mp H
            obtain ⟨⟨t364, t365⟩, A170, H⟩ := H
            replace H : (if t365 = 0 then (if 0 ≤ (l0.length : Int) then (if ((l0.length : Int) : Int).toNat ≤ 35184372088832 then (gold_Invs.l1 k1 l0 (List.replicate ((l0.length : Int) : Int).toNat 0) x5_1 t364 (wrap64 ((l0.length : Int) - 1))) else (none)) else (none)) else (some (([] : List Int), 0, t365))) = some (r1, r2, r3) := H
            have A17 := Aside0.mk A170
            clear A170
            by_cases c18 : t365 = 0
            · rw [if_pos c18] at H
              have c18b0 : (t365 == 0) = true := beq_iff_eq.mpr c18
              have c18b1 : (t365 != 0) = false := bne_eq_false_iff_eq.mpr c18
              clear c18
              by_cases c19 : 0 ≤ (l0.length : Int)
              · rw [if_pos c19] at H
                have c19b0 := eq_true c19
                have LTc19 := Aside0.mk (show (((l0.take (0 : Int).toNat).length : Int) = max 0 0) by rw [List.length_take]; omega)
                (try (have LDc19 := Aside0.mk (show ∀ lo_ : Nat, (((l0.take (0 : Int).toNat).drop lo_).length : Int) = (((0 : Int).toNat - lo_ : Nat) : Int) from fun lo_ => by rw [List.length_drop, List.length_take]; omega)))
                have c19b1 : decide (0 ≤ (l0.length : Int)) = true := decide_eq_true c19
                clear c19
                by_cases c20 : ((l0.length : Int) : Int).toNat ≤ 35184372088832
                · rw [if_pos c20] at H
                  have c20b0 := eq_true c20
                  have c20b1 : decide (((l0.length : Int) : Int).toNat ≤ 35184372088832) = true := decide_eq_true c20
                  clear c20
                  obtain ⟨y366, hy366⟩ : ∃ y_ : List Int, y_ = (List.replicate ((l0.length : Int) : Int).toNat 0) := ⟨_, rfl⟩
                  replace H : (gold_Invs.l1 k1 l0 y366 x5_1 t364 (wrap64 ((l0.length : Int) - 1))) = some (r1, r2, r3) := by first | (rw [hy366]; with_reducible exact H) | (have H2_ := (Option.bind_some _ _).symm.trans H; rw [hy366]; with_reducible exact H2_) | (have H2_ := (Option.bind_some _ _).symm.trans H; with_reducible exact H2_) | with_reducible exact H | (rw [hy366]; exact H) | exact H
                  have Ny366 := Aside0.mk hy366
                  clear hy366
                  have H' := Aside0.mk H
                  clear H
                  go_wp2_with (first | ((with_reducible refine gate_callee (f := 42) rfl ?_); refine goesL_ (some 35) rfl rfl Try.func42 (by kernel_rfl) rfl #[.int .u64 x6_1] rfl (by (try simp only [List.map_toArray, List.map_cons, List.map_nil]); first | done | rfl | (simp only [List.length_drop, List.length_take]; rfl)) ?_; (with_reducible refine (gold_Inv.calls k1 x6_1 t364 t365 _ A17.out).mono ?_); rintro e w21 ⟨rfl, hb⟩; refine ⟨_, rfl, ?_⟩; have n0_ := Aside0.mk (Kd.R_below (by (with_reducible repeat (first | apply Kd.R_alloc | apply Kd.R_drewN | apply Kd.R_drew)); exact HO_5.out) hb); have n1_ := Aside0.mk (below_step (by repeat (first | (with_reducible first | exact HB.out | apply below_alloc | apply pw_below_drewN | apply below_drew1) | exact HB.out)) hb); clear HO_5; clear HB; have HO_5 := n0_; have HB := n1_; clear n0_ n1_; (try clear hb); (try clear hb2); (try clear hk); (try clear hi)) | (go_at_call 42; (with_reducible refine (gold_Inv.calls k1 x6_1 t364 t365 _ A17.out).mono ?_); rintro e w21 ⟨rfl, hb⟩; have n0_ := Aside0.mk (Kd.R_below (by (with_reducible repeat (first | apply Kd.R_alloc | apply Kd.R_drewN | apply Kd.R_drew)); exact HO_5.out) hb); have n1_ := Aside0.mk (below_step (by repeat (first | (with_reducible first | exact HB.out | apply below_alloc | apply pw_below_drewN | apply below_drew1) | exact HB.out)) hb); clear HO_5; clear HB; have HO_5 := n0_; have HB := n1_; clear n0_ n1_; (try clear hb); (try clear hb2); (try clear hk); (try clear hi)) | ((with_reducible refine gate_dst (N := 43) rfl ?_); refine Kd.R_make (Kd.int .u64) _ 29 rfl (N := 43) rfl 22 _ _ rfl (l0.length : Int) rfl rfl Try.underlying22 (.int .u64 0) 8 info29 rfl (by decide) (by omega) 0 (ok := fun _ => True) (okp := fun _ => True) rfl (fun _ hk => hk) trivial (of_decide_eq_true (by first | (with_reducible assumption) | assumption)) (Nat.le_trans (Nat.mul_le_mul_right _ (of_decide_eq_true (by first | (with_reducible assumption) | assumption) : (l0.length : Int).toNat ≤ 35184372088832)) (by omega)) (Below.refl _ _) (Nat.le_refl _) ?_; intro v367 w22 ho23 hb hg_ hnew_; clear hg_ hnew_; (first | rw [← Ny366.out] at ho23 | (simp only [Int.reduceToNat] at ho23; rw [← Ny366.out] at ho23)); have n0_ := Aside0.mk (Kd.R_elder' (by (with_reducible repeat (first | apply Kd.R_alloc | apply Kd.R_drewN | apply Kd.R_drew)); exact HO_5.out) (Kd.R_base ho23) hb); have n1_ := Aside0.mk (Kd.R_lower (Kd.R_new' ho23 (Kd.R_lt (by (with_reducible repeat (first | apply Kd.R_alloc | apply Kd.R_drewN | apply Kd.R_drew)); exact HO_5.out))) (below_size (by repeat (first | (with_reducible first | exact HB.out | apply below_alloc | apply pw_below_drewN | apply below_drew1) | exact HB.out)))); have n2_ := Aside0.mk (below_step (by repeat (first | (with_reducible first | exact HB.out | apply below_alloc | apply pw_below_drewN | apply below_drew1) | exact HB.out)) hb); clear HO_5; clear HB; have HO_5 := n0_; have HO368 := n1_; have HB := n2_; clear n0_ n1_ n2_; clear hb ho23))
                  go_loopg [9, 10] k1 (fun kq v9 v10 w' => ∃ (x2_2 : List Int) (x9_2 : Int) (x10_2 : Int), v9 = .int .u64 x9_2 ∧ v10 = .int .i64 x10_2 ∧ Aside0 (gold_Invs.l1 kq l0 x2_2 x5_1 x9_2 x10_2 = some (r1, r2, r3)) ∧ Aside0 (kq ≤ k1) ∧ Aside0 (Kd.R (Kd.int .u64) 29 w' w.heap.size (fun k_ => some k_ ≠ (v358 : Value).ownBlock) v367 x2_2) ∧ Aside0 (Kd.R (Kd.int .u64) 29 w' w.heap.size (fun k_ => some k_ ≠ (v367 : Value).ownBlock) v358 x5_1) ∧ Aside0 (Below w.heap.size w w'))
                  case atStart => exact ⟨(y366), (t364), (wrap64 ((l0.length : Int) - 1)), (by first | rfl | (simp; done) | (simp [*]; done)), (by first | rfl | (simp; done) | (simp [*]; done)), H', ⟨Nat.le_refl _⟩, ⟨by (with_reducible repeat (first | apply Kd.R_alloc | apply Kd.R_drewN | apply Kd.R_drew)); exact Kd.R_mono HO368.out (fun _ hk => hk.2)⟩, ⟨by (with_reducible repeat (first | apply Kd.R_alloc | apply Kd.R_drewN | apply Kd.R_drew)); exact Kd.R_mono HO_5.out (fun _ hk => hk.2)⟩, ⟨by repeat (first | (with_reducible first | exact HB.out | apply below_alloc | apply pw_below_drewN | apply below_drew1) | exact HB.out)⟩⟩
                  case round =>
                    clear H'
                    try clear c1
                    try clear p1
                    try clear q1
                    try clear hx1
                    try clear hf1
                    try clear c2
                    try clear c2b0
                    try clear c2b1
                    try clear p2
                    try clear c3
                    try clear c3b0
                    try clear c3b1
                    try clear p3
                    try clear q3
                    try clear hx3
                    try clear c4
                    try clear c6
                    try clear c6b0
                    try clear p6
                    try clear c7
                    try clear c7b0
                    try clear c8
                    try clear c8b0
                    try clear c10
                    try clear c10b0
                    try clear c10b1
                    try clear c12
                    try clear c12b0
                    try clear p13
                    try clear q13
                    try clear hx13
                    try clear hf13
                    try clear c18
                    try clear c18b0
                    try clear c18b1
                    try clear c19
                    try clear c19b0
                    try clear c19b1
                    try clear c20
                    try clear c20b0
                    try clear c20b1
                    try clear c23
                    try clear hx13_0
                    try clear hx360_0
                    try clear p13
                    try clear p2
                    try clear p360
                    try clear q13
                    try clear q360
                    obtain ⟨x2_2, x9_2, x10_2, rfl, rfl, HA, HK2, HO_2, HO_5, HB⟩ := hrel
                    cases gk with
                    | zero => exact absurd HA.out (by simp [gold_Invs.l1])
                    | succ k2 =>
                      have H := HA.out
                      clear HA
                      simp only [gold_Invs.l1] at H
                      by_cases c24 : x10_2 ≥ 0
                      · rw [if_pos c24] at H
                        have c24b0 : decide (0 ≤ x10_2) = true := decide_eq_true c24
                        clear c24
                        by_cases c25 : 0 ≤ x10_2
                        · rw [if_pos c25] at H
                          have c25b0 : decide (0 ≤ x10_2) = true := decide_eq_true c25
                          clear c25
                          by_cases c26 : x10_2 < (x5_1.length : Int)
                          · rw [if_pos c26] at H
                            have c26b0 : decide (x10_2 < (x5_1.length : Int)) = true := decide_eq_true c26
                            (try (have c26b0_0 := c26b0; rw [LTc2.out] at c26b0_0))
                            (try (have c26b0_0p := eq_true (of_decide_eq_true c26b0_0)))
                            (try (have c26b0_1 := c26b0; rw [LDc2.out] at c26b0_1))
                            (try (have c26b0_1p := eq_true (of_decide_eq_true c26b0_1)))
                            (try (have c26b0_2 := c26b0; rw [LTc19.out] at c26b0_2))
                            (try (have c26b0_2p := eq_true (of_decide_eq_true c26b0_2)))
                            (try (have c26b0_3 := c26b0; rw [LDc19.out] at c26b0_3))
                            (try (have c26b0_3p := eq_true (of_decide_eq_true c26b0_3)))
                            clear c26
                            replace H := Option.bind_eq_some_iff.mp H
                            obtain ⟨t370, A270, H⟩ := H
                            replace H : (if x10_2 < (l0.length : Int) then ((gold_Mul.f x9_2 (rd l0 x10_2)).bind fun t372 => (if x10_2 < (x2_2.length : Int) then (gold_Invs.l1 k2 l0 (x2_2.set (x10_2 : Int).toNat t370) x5_1 t372 (wrap64 (x10_2 - 1))) else (none))) else (none)) = some (r1, r2, r3) := H
                            have A27 := Aside0.mk A270
                            clear A270
                            by_cases c28 : x10_2 < (l0.length : Int)
                            · rw [if_pos c28] at H
                              have c28b0 : decide (x10_2 < (l0.length : Int)) = true := decide_eq_true c28
                              (try (have c28b0_0 := c28b0; rw [LTc2.out] at c28b0_0))
                              (try (have c28b0_0p := eq_true (of_decide_eq_true c28b0_0)))
                              (try (have c28b0_1 := c28b0; rw [LDc2.out] at c28b0_1))
                              (try (have c28b0_1p := eq_true (of_decide_eq_true c28b0_1)))
                              (try (have c28b0_2 := c28b0; rw [LTc19.out] at c28b0_2))
                              (try (have c28b0_2p := eq_true (of_decide_eq_true c28b0_2)))
                              (try (have c28b0_3 := c28b0; rw [LDc19.out] at c28b0_3))
                              (try (have c28b0_3p := eq_true (of_decide_eq_true c28b0_3)))
                              clear c28
                              replace H := Option.bind_eq_some_iff.mp H
                              obtain ⟨t372, A290, H⟩ := H
                              replace H : (if x10_2 < (x2_2.length : Int) then (gold_Invs.l1 k2 l0 (x2_2.set (x10_2 : Int).toNat t370) x5_1 t372 (wrap64 (x10_2 - 1))) else (none)) = some (r1, r2, r3) := H
                              have A29 := Aside0.mk A290
                              clear A290
                              by_cases c30 : x10_2 < (x2_2.length : Int)
                              · rw [if_pos c30] at H
                                have c30b0 : decide (x10_2 < (x2_2.length : Int)) = true := decide_eq_true c30
                                (try (have c30b0_0 := c30b0; rw [LTc2.out] at c30b0_0))
                                (try (have c30b0_0p := eq_true (of_decide_eq_true c30b0_0)))
                                (try (have c30b0_1 := c30b0; rw [LDc2.out] at c30b0_1))
                                (try (have c30b0_1p := eq_true (of_decide_eq_true c30b0_1)))
                                (try (have c30b0_2 := c30b0; rw [LTc19.out] at c30b0_2))
                                (try (have c30b0_2p := eq_true (of_decide_eq_true c30b0_2)))
                                (try (have c30b0_3 := c30b0; rw [LDc19.out] at c30b0_3))
                                (try (have c30b0_3p := eq_true (of_decide_eq_true c30b0_3)))
                                clear c30
                                obtain ⟨y373, hy373⟩ : ∃ y_ : List Int, y_ = (x2_2.set (x10_2 : Int).toNat t370) := ⟨_, rfl⟩
                                replace H : (gold_Invs.l1 k2 l0 y373 x5_1 t372 (wrap64 (x10_2 - 1))) = some (r1, r2, r3) := by first | (rw [hy373]; with_reducible exact H) | (have H2_ := (Option.bind_some _ _).symm.trans H; rw [hy373]; with_reducible exact H2_) | (have H2_ := (Option.bind_some _ _).symm.trans H; with_reducible exact H2_) | with_reducible exact H | (rw [hy373]; exact H) | exact H
                                have Ny373 := Aside0.mk hy373
                                clear hy373
                                have H' := Aside0.mk H
                                clear H
                                try go_wp2
                                have n0_ := Aside0.mk (Kd.R_drew HO_2.out)
                                have n1_ := Aside0.mk (Kd.R_drew HO_5.out)
                                have n2_ := Aside0.mk (below_drew1 HB.out)
                                clear HO_2
                                clear HO_5
                                clear HB
                                have HO_2 := n0_
                                have HO_5 := n1_
                                have HB := n2_
                                clear n0_ n1_ n2_
                                obtain ⟨Ao33, co33, eo33⟩ := Kd.R_slice HO_5.out
                                (first | subst eo33 | (injection eo33 with f1_ f2_ f3_; have f4_ := f1_.symm; have f5_ := f3_.symm; clear f1_ f2_ f3_; subst f4_; subst f5_))
                                have p369 : 0 ≤ (x10_2 : Int) := of_decide_eq_true (by first | (with_reducible assumption) | assumption)
                                have q369 : x10_2 < (x5_1.length : Int) := of_decide_eq_true (by first | (with_reducible assumption) | assumption)
                                obtain ⟨ad369, e369, hx369_0⟩ := Kd.at_int (Kd.R_reads' HO_5.out).2.2 x10_2 p369 q369
                                cases e369
                                replace p369 := eq_true p369
                                replace q369 := eq_true q369
                                have p371 : 0 ≤ (x10_2 : Int) := of_decide_eq_true (by first | (with_reducible assumption) | assumption)
                                have q371 : x10_2 < (l0.length : Int) := of_decide_eq_true (by first | (with_reducible assumption) | assumption)
                                obtain ⟨ad371, e371, hx371_0⟩ := Kd.at_int HR0.out x10_2 p371 q371
                                have hw371_0 := hx371_0
                                cases e371
                                replace hx371_0 := (HB.out.cell (World.block_lt_of_cell? w _ hx371_0)).trans hx371_0
                                replace p371 := eq_true p371
                                replace q371 := eq_true q371
                                refine start_ (n := 17) (S := fun w' => w'.cell? (ad369.add (x10_2).toNat) = some (.int .u64 (rd x5_1 x10_2)) ∧ w'.cell? (ad371.add (x10_2).toNat) = some (.int .u64 (rd l0 x10_2))) (ds := [15]) #[false, false, false, false, false, false, false, false, false, false, false, false, false, false, false, false, false] (by kernel_rfl) rfl rfl ⟨hx369_0, ((HB.out.cell (World.block_lt_of_cell? w _ hw371_0)).trans hw371_0)⟩ (fun hHeld => ?_); refine with_tabW gold_Invs.tab17 gold_Invs.bits17 (fun HT_ HW_ => ?_)
                                generalize wr.drew = w32 at HO_2 HO_5 HB hx369_0 hx371_0 hHeld ⊢
                                refine pure_ (i := 0) (N := some 51) (v := ?_) (a' := ?_) #[true, false, false, false, false, false, false, false, false, false, false, false, false, false, false, false, false] rfl rfl (any_of HT_.out (by kernel_rfl)) (fun _ _ _ h => h) (Or.inl ⟨by rfl, ?_⟩) ?_ ?_
                                rotate_left
                                · intro w'
                                  go_simp
                                  with_reducible rfl
                                rotate_left
                                · simp only [Act.put, List.setIfInBounds_toArray, List.set_cons_zero, List.set_cons_succ, i64_w, i32_w]
                                  rfl
                                refine pure_ (i := 1) (N := some 52) (v := ?_) (a' := ?_) #[true, true, false, false, false, false, false, false, false, false, false, false, false, false, false, false, false] rfl rfl (any_of HT_.out (by kernel_rfl)) (fun _ _ _ h => h) (Or.inl ⟨by rfl, ?_⟩) ?_ ?_
                                rotate_left
                                · intro w'
                                  go_simp
                                  with_reducible rfl
                                rotate_left
                                · simp only [Act.put, List.setIfInBounds_toArray, List.set_cons_zero, List.set_cons_succ, i64_w, i32_w]
                                  rfl
                                refine pure_ (i := 2) (N := some 53) (v := ?_) (a' := ?_) #[true, true, true, false, false, false, false, false, false, false, false, false, false, false, false, false, false] rfl rfl (any_of HT_.out (by kernel_rfl)) (fun _ _ _ h => h) (Or.inl ⟨by rfl, ?_⟩) ?_ ?_
                                rotate_left
                                · intro w'
                                  go_simp
                                  with_reducible rfl
                                rotate_left
                                · simp only [Act.put, List.setIfInBounds_toArray, List.set_cons_zero, List.set_cons_succ, i64_w, i32_w]
                                  rfl
                                refine pure_ (i := 3) (N := some 54) (v := ?_) (a' := ?_) #[true, true, true, true, false, false, false, false, false, false, false, false, false, false, false, false, false] rfl rfl (any_of HT_.out (by kernel_rfl)) (fun _ _ _ h => h) (Or.inl ⟨by rfl, ?_⟩) ?_ ?_
                                rotate_left
                                · intro w'
                                  go_simp
                                  with_reducible rfl
                                rotate_left
                                · simp only [Act.put, List.setIfInBounds_toArray, List.set_cons_zero, List.set_cons_succ, i64_w, i32_w]
                                  rfl
                                refine pure_ (i := 4) (N := some 55) (v := ?_) (a' := ?_) #[true, true, true, true, true, false, false, false, false, false, false, false, false, false, false, false, false] rfl rfl (any_of HT_.out (by kernel_rfl)) (fun _ _ _ h => h) (Or.inl ⟨by rfl, ?_⟩) ?_ ?_
                                rotate_left
                                · intro w'
                                  go_simp
                                  with_reducible rfl
                                rotate_left
                                · simp only [Act.put, List.setIfInBounds_toArray, List.set_cons_zero, List.set_cons_succ, i64_w, i32_w]
                                  rfl
                                refine pure_ (i := 5) (N := some 56) (v := ?_) (a' := ?_) #[true, true, true, true, true, true, false, false, false, false, false, false, false, false, false, false, false] rfl rfl (any_of HT_.out (by kernel_rfl)) (fun _ _ _ h => h) (Or.inl ⟨by rfl, ?_⟩) ?_ ?_
                                rotate_left
                                · intro w'
                                  go_simp
                                  with_reducible rfl
                                rotate_left
                                · simp only [Act.put, List.setIfInBounds_toArray, List.set_cons_zero, List.set_cons_succ, i64_w, i32_w]
                                  rfl
                                refine pure_ (i := 8) (N := some 59) (v := ?_) (a' := ?_) #[true, true, true, true, true, true, false, false, true, false, false, false, false, false, false, false, false] rfl rfl (any_of HT_.out (by kernel_rfl)) (fun _ _ _ h => h) (Or.inl ⟨by rfl, ?_⟩) ?_ ?_
                                rotate_left
                                · intro w'
                                  go_simp
                                  with_reducible rfl
                                rotate_left
                                · simp only [Act.put, List.setIfInBounds_toArray, List.set_cons_zero, List.set_cons_succ, i64_w, i32_w]
                                  rfl
                                refine pure_ (i := 9) (N := some 60) (v := ?_) (a' := ?_) #[true, true, true, true, true, true, false, false, true, true, false, false, false, false, false, false, false] rfl rfl (any_of HT_.out (by kernel_rfl)) (fun _ _ _ h => h) (Or.inl ⟨by rfl, ?_⟩) ?_ ?_
                                rotate_left
                                · intro w'
                                  go_simp
                                  with_reducible rfl
                                rotate_left
                                · simp only [Act.put, List.setIfInBounds_toArray, List.set_cons_zero, List.set_cons_succ, i64_w, i32_w]
                                  rfl
                                refine pure_ (i := 10) (N := some 61) (v := ?_) (a' := ?_) #[true, true, true, true, true, true, false, false, true, true, true, false, false, false, false, false, false] rfl rfl (any_of HT_.out (by kernel_rfl)) (fun _ _ _ h => h) (Or.inl ⟨by rfl, ?_⟩) ?_ ?_
                                rotate_left
                                · intro w'
                                  go_simp
                                  with_reducible rfl
                                rotate_left
                                · simp only [Act.put, List.setIfInBounds_toArray, List.set_cons_zero, List.set_cons_succ, i64_w, i32_w]
                                  rfl
                                refine pure_ (i := 11) (N := some 62) (v := ?_) (a' := ?_) #[true, true, true, true, true, true, false, false, true, true, true, true, false, false, false, false, false] rfl rfl (any_of HT_.out (by kernel_rfl)) (fun _ _ _ h => h) (Or.inl ⟨by rfl, ?_⟩) ?_ ?_
                                rotate_left
                                · intro w'
                                  go_simp
                                  with_reducible rfl
                                rotate_left
                                · simp only [Act.put, List.setIfInBounds_toArray, List.set_cons_zero, List.set_cons_succ, i64_w, i32_w]
                                  rfl
                                refine take_ (i := 6) (N := some 57) (v := ?_) (a' := ?_) #[true, true, true, true, true, true, true, false, true, true, true, true, false, false, false, false, false] rfl rfl (take_ofW HT_.out HW_.out (by kernel_rfl)) (fun _ _ _ h => h) (Or.inl ⟨by rfl, ?_⟩) hHeld ?_ ?_
                                rotate_left
                                · rintro w' ⟨s0, s1⟩
                                  go_simp
                                  with_reducible rfl
                                rotate_left
                                · simp only [Act.put, List.setIfInBounds_toArray, List.set_cons_zero, List.set_cons_succ, i64_w, i32_w]
                                  rfl
                                refine take_ (i := 12) (N := some 63) (v := ?_) (a' := ?_) #[true, true, true, true, true, true, true, false, true, true, true, true, true, false, false, false, false] rfl rfl (take_ofW HT_.out HW_.out (by kernel_rfl)) (fun _ _ _ h => h) (Or.inl ⟨by rfl, ?_⟩) hHeld ?_ ?_
                                rotate_left
                                · rintro w' ⟨s0, s1⟩
                                  go_simp
                                  with_reducible rfl
                                rotate_left
                                · simp only [Act.put, List.setIfInBounds_toArray, List.set_cons_zero, List.set_cons_succ, i64_w, i32_w]
                                  rfl
                                refine one_ (i := 7) (N := some 58) #[true, true, true, true, true, true, true, true, true, true, true, true, true, false, false, false, false] rfl rfl (one_of HT_.out (by kernel_rfl)) (by decide) (fun K hK => ?_)
                                refine goes_ Try.func28 (by kernel_rfl) rfl #[.int .u64 x9_2, .int .u64 (rd x5_1 x10_2)] (by rfl) rfl rfl (by (try simp only [List.map_toArray, List.map_cons, List.map_nil]); first | done | rfl | (simp only [List.length_drop, List.length_take]; rfl)) ?_
                                with_reducible refine (gold_Mul.calls x9_2 (rd x5_1 x10_2) t370 _ A27.out).mono ?_
                                rintro e w34 ⟨rfl, hb⟩
                                have HS0_ := (hb.cell (World.block_lt_of_cell? _ _ (hHeld.1))).trans (hHeld.1)
                                refine ⟨_, rfl, ?_⟩
                                have n0_ := Aside0.mk (Kd.R_below (by (with_reducible repeat (first | apply Kd.R_alloc | apply Kd.R_drewN | apply Kd.R_drew)); exact HO_2.out) hb)
                                have n1_ := Aside0.mk (Kd.R_below (by (with_reducible repeat (first | apply Kd.R_alloc | apply Kd.R_drewN | apply Kd.R_drew)); exact HO_5.out) hb)
                                have n2_ := Aside0.mk (below_step (by repeat (first | (with_reducible first | exact HB.out | apply below_alloc | apply pw_below_drewN | apply below_drew1) | exact HB.out)) hb)
                                clear HO_2
                                clear HO_5
                                clear HB
                                have HO_2 := n0_
                                have HO_5 := n1_
                                have HB := n2_
                                clear n0_ n1_ n2_
                                (try clear hb)
                                (try clear hb2)
                                (try clear hk)
                                (try clear hi)
                                refine hK.out _ _ ⟨HS0_, ((HB.out.cell (World.block_lt_of_cell? w _ hw371_0)).trans hw371_0)⟩ (fun hHeld => ?_)
                                clear hK K
                                refine norm_ (a' := ?_) ?_ ?_
                                rotate_left
                                · show Act.put _ (some 58) _ = _
                                  simp only [Act.put, List.setIfInBounds_toArray, List.set_cons_zero, List.set_cons_succ, i64_w, i32_w]
                                  rfl
                                refine one_ (i := 13) (N := some 64) #[true, true, true, true, true, true, true, true, true, true, true, true, true, true, false, false, false] rfl rfl (one_of HT_.out (by kernel_rfl)) (by decide) (fun K hK => ?_)
                                refine goes_ Try.func28 (by kernel_rfl) rfl #[.int .u64 x9_2, .int .u64 (rd l0 x10_2)] (by rfl) rfl rfl (by (try simp only [List.map_toArray, List.map_cons, List.map_nil]); first | done | rfl | (simp only [List.length_drop, List.length_take]; rfl)) ?_
                                with_reducible refine (gold_Mul.calls x9_2 (rd l0 x10_2) t372 _ A29.out).mono ?_
                                rintro e w35 ⟨rfl, hb⟩
                                have HS0_ := (hb.cell (World.block_lt_of_cell? _ _ (hHeld.1))).trans (hHeld.1)
                                refine ⟨_, rfl, ?_⟩
                                have n0_ := Aside0.mk (Kd.R_below (by (with_reducible repeat (first | apply Kd.R_alloc | apply Kd.R_drewN | apply Kd.R_drew)); exact HO_2.out) hb)
                                have n1_ := Aside0.mk (Kd.R_below (by (with_reducible repeat (first | apply Kd.R_alloc | apply Kd.R_drewN | apply Kd.R_drew)); exact HO_5.out) hb)
                                have n2_ := Aside0.mk (below_step (by repeat (first | (with_reducible first | exact HB.out | apply below_alloc | apply pw_below_drewN | apply below_drew1) | exact HB.out)) hb)
                                clear HO_2
                                clear HO_5
                                clear HB
                                have HO_2 := n0_
                                have HO_5 := n1_
                                have HB := n2_
                                clear n0_ n1_ n2_
                                (try clear hb)
                                (try clear hb2)
                                (try clear hk)
                                (try clear hi)
                                have p31 : 0 ≤ (x10_2 : Int) := of_decide_eq_true (by first | (with_reducible assumption) | assumption)
                                have q31 : (x10_2 : Int) < ((x2_2.length : Int) : Int) := of_decide_eq_true (by first | (with_reducible assumption) | assumption)
                                obtain ⟨go31, co31, eo31, gb31, gl31, cl31, HG31⟩ := Kd.R_form HO_2.out (by omega)
                                (first | cases eo31 | (injection eo31 with ea_ en_ ec_; (first | subst ea_ | (injection ea_ with ea_; subst ea_)); subst ec_; clear en_))
                                have GB31 := Aside0.mk gb31
                                have GG31 := Aside0.mk HG31
                                clear gb31 gl31 HG31
                                obtain ⟨hx31_0, hf31_0⟩ := Kd.R_celln 0 HO_2.out (x10_2 : Int) p31 q31
                                replace p31 := eq_true p31
                                replace q31 := eq_true q31
                                have HP36 := Kd.R_putn HO_2.out (x10_2 : Int) t370
                                rw [← Ny373.out] at HP36
                                have HQ36 := Aside0.mk HP36
                                clear HP36
                                refine hK.out _ _ ⟨HS0_, ((HB.out.cell (World.block_lt_of_cell? w _ hw371_0)).trans hw371_0)⟩ (fun hHeld => ?_)
                                clear hK K
                                refine norm_ (a' := ?_) ?_ ?_
                                rotate_left
                                · show Act.put _ (some 64) _ = _
                                  simp only [Act.put, List.setIfInBounds_toArray, List.set_cons_zero, List.set_cons_succ, i64_w, i32_w]
                                  rfl
                                refine pure_ (i := 14) (N := some 65) (v := ?_) (a' := ?_) #[true, true, true, true, true, true, true, true, true, true, true, true, true, true, true, false, false] rfl rfl (any_of HT_.out (by kernel_rfl)) (fun _ _ _ h => h) (Or.inl ⟨by rfl, ?_⟩) ?_ ?_
                                rotate_left
                                · intro w'
                                  go_simp
                                  with_reducible rfl
                                rotate_left
                                · simp only [Act.put, List.setIfInBounds_toArray, List.set_cons_zero, List.set_cons_succ, i64_w, i32_w]
                                  rfl
                                refine last_ (i := 15) (N := none) #[true, true, true, true, true, true, true, true, true, true, true, true, true, true, true, true, false] rfl rfl (one_of HT_.out (by kernel_rfl)) (by decide) (fun K hK => ?_)
                                refine skip_ (w1 := ?_) (by rfl) rfl ?_ ?_
                                rotate_left
                                · go_simp
                                  rfl
                                refine hK.out _ _ ?_
                                clear hK K
                                refine pure_ (i := 16) (N := some 9) (v := ?_) (a' := ?_) #[true, true, true, true, true, true, true, true, true, true, true, true, true, true, true, true, true] rfl rfl (any_of HT_.out (by kernel_rfl)) (fun _ _ _ h => h) (Or.inl ⟨by rfl, ?_⟩) ?_ ?_
                                rotate_left
                                · intro w'
                                  go_simp
                                  with_reducible rfl
                                rotate_left
                                · simp only [Act.put, List.setIfInBounds_toArray, List.set_cons_zero, List.set_cons_succ, i64_w, i32_w]
                                  rfl
                                refine done_ (done_of HT_.out (by kernel_rfl)) ?_
                                try go_wp2
                                (first | go_roundg k2 | (simp only [add_plain] at *; go_roundg k2))
                                case measure => have := HK1.out; have := HK2.out; omega
                                case rel => exact ⟨(y373), (t372), (wrap64 (x10_2 - 1)), (by first | rfl | (simp; done) | (simp [*]; done)), (by first | rfl | (simp; done) | (simp [*]; done)), H', ⟨by have := HK1.out; have := HK2.out; omega⟩, ⟨by (with_reducible repeat (first | apply Kd.R_alloc | apply Kd.R_drewN | apply Kd.R_drew)); exact HQ36.out⟩, ⟨by (with_reducible repeat (first | apply Kd.R_alloc | apply Kd.R_drewN | apply Kd.R_drew)); exact Kd.R_mono (Kd.R_far (p := ⟨go31, (x10_2 : Int).toNat, none⟩) (Kd.R_mono HO_5.out (fun k_ hk => (⟨hk, fun e_ => hk (by rw [e_]; rfl)⟩ : _ ∧ k_ ≠ go31))) (fun _ hk => hk.2) (.int .u64 t370)) (fun _ hk => hk.1)⟩, ⟨by repeat (first | (with_reducible first | exact HB.out | apply below_alloc | apply pw_below_drewN | apply below_drew1 | refine below_set ?_ GB31.out) | exact HB.out)⟩⟩
                              · rw [if_neg c30] at H
                                exact absurd H (by simp)
                            · rw [if_neg c28] at H
                              exact absurd H (by simp)
                          · rw [if_neg c26] at H
                            exact absurd H (by simp)
                        · rw [if_neg c25] at H
                          exact absurd H (by simp)
                      · rw [if_neg c24] at H
                        have c24b0 : decide (0 ≤ x10_2) = false := decide_eq_false c24
                        clear c24
                        simp only [Option.some.injEq, Prod.mk.injEq] at H
                        obtain ⟨rfl, rfl, rfl⟩ := H
                        go_wp2
                        go_ret3
                        exact ⟨_, by first | rfl | (simp [errW_none, errW_some] <;> rfl) | (simp [*, errW_none, errW_some] <;> rfl), by (with_reducible repeat (first | apply Kd.R_alloc | apply Kd.R_drewN | apply Kd.R_drew)); exact Kd.R_mono HO_2.out (fun _ hk => trivial), by repeat (first | (with_reducible first | exact HB.out | apply below_alloc | apply pw_below_drewN | apply below_drew1) | exact HB.out)⟩
                · rw [if_neg c20] at H
                  exact absurd H (by simp)
              · rw [if_neg c19] at H
                exact absurd H (by simp)
            · rw [if_neg c18] at H
              have c18b0 : (t365 == 0) = false := beq_eq_false_iff_ne.mpr c18
              have c18b1 : (t365 != 0) = true := bne_iff_ne.mpr c18
              simp only [Option.some.injEq, Prod.mk.injEq] at H
              obtain ⟨rfl, rfl, rfl⟩ := H
              go_wp2_with (first | ((with_reducible refine gate_callee (f := 42) rfl ?_); refine goesL_ (some 35) rfl rfl Try.func42 (by kernel_rfl) rfl #[.int .u64 x6_1] rfl (by (try simp only [List.map_toArray, List.map_cons, List.map_nil]); first | done | rfl | (simp only [List.length_drop, List.length_take]; rfl)) ?_; (with_reducible refine (gold_Inv.calls k1 x6_1 t364 t365 _ A17.out).mono ?_); rintro e w37 ⟨rfl, hb⟩; refine ⟨_, rfl, ?_⟩; have n0_ := Aside0.mk (Kd.R_below (by (with_reducible repeat (first | apply Kd.R_alloc | apply Kd.R_drewN | apply Kd.R_drew)); exact HO_5.out) hb); have n1_ := Aside0.mk (below_step (by repeat (first | (with_reducible first | exact HB.out | apply below_alloc | apply pw_below_drewN | apply below_drew1) | exact HB.out)) hb); clear HO_5; clear HB; have HO_5 := n0_; have HB := n1_; clear n0_ n1_; (try clear hb); (try clear hb2); (try clear hk); (try clear hi)) | (go_at_call 42; (with_reducible refine (gold_Inv.calls k1 x6_1 t364 t365 _ A17.out).mono ?_); rintro e w37 ⟨rfl, hb⟩; have n0_ := Aside0.mk (Kd.R_below (by (with_reducible repeat (first | apply Kd.R_alloc | apply Kd.R_drewN | apply Kd.R_drew)); exact HO_5.out) hb); have n1_ := Aside0.mk (below_step (by repeat (first | (with_reducible first | exact HB.out | apply below_alloc | apply pw_below_drewN | apply below_drew1) | exact HB.out)) hb); clear HO_5; clear HB; have HO_5 := n0_; have HB := n1_; clear n0_ n1_; (try clear hb); (try clear hb2); (try clear hk); (try clear hi)))
              go_ret3
              exact ⟨_, by first | rfl | (simp [errW_none, errW_some] <;> rfl) | (simp [*, errW_none, errW_some] <;> rfl), by first | exact Kd.R_nil _ _ _ _ _ | exact Kd.N_nil _ _ _ _ _ | exact Kd.V_nil _ _ _ _ _ | exact Kd.Q_nil _ _ _ _ _ | exact Kd.S_nil _ _ _ _ _, by repeat (first | (with_reducible first | exact HB.out | apply below_alloc | apply pw_below_drewN | apply below_drew1) | exact HB.out)⟩
    · rw [if_neg c3] at H
      exact absurd H (by simp)
  · rw [if_neg c2] at H
    exact absurd H (by simp)

/-! ### tree_joined: function 35 (by hand) -/
theorem hk_new1 (w : World) (o o2 : Obj) : ((w.alloc o).alloc o2).heap[w.heap.size + 1]? = some o2 := by
  have := blk_new (w.alloc o) o2
  simpa using this
theorem hk_new0 (w : World) (o : Obj) : (w.alloc o).drew.heap[w.heap.size]? = some o := blk_new w o
theorem hk_new2 (w : World) (o o2 : Obj) : ((w.alloc o).alloc o2).drew.heap[w.heap.size + 1]? = some o2 := hk_new1 w o o2
theorem hk_new3 (w : World) (o o2 : Obj) : ((w.alloc o).alloc o2).drew.heap[w.heap.size]? = some o := blk_alloc (blk_new w o) o2
/-- Two rows, boxed. -/
theorem hk_box2_C {W : World} {b c d : Nat} {A B : Option Addr} {x y : List Int} (h : W.heap[b]? = some (.cells #[.slice A x.length c, .slice B y.length d] 22 (0, 0))) (hl : x.length ≤ c) (hC : Kd.C (Kd.int .u64) W A x.length x) (hm : y.length ≤ d) (hD : Kd.C (Kd.int .u64) W B y.length y) : Kd.C (Kd.slice 29 (Kd.int .u64)) W (some ⟨b, 0, none⟩) [x, y].length [x, y] := by
  refine ⟨rfl, show (2 : Nat) ≤ 9223372036854775807 by decide, fun _ => ⟨_, rfl, fun j p hj => ?_⟩⟩
  rcases j with _ | _ | j
  · rw [List.getElem?_cons_zero] at hj
    injection hj with hj
    subst hj
    refine ⟨[.slice A x.length c], rfl, ⟨A, c, rfl, hl, hC⟩, fun i u hu => ?_⟩
    rcases i with _ | i
    · rw [List.getElem?_cons_zero] at hu
      injection hu with hu
      subst hu
      rw [add_at]
      exact hk_blk_cell h 0 _ rfl
    · simp at hu
  · rw [List.getElem?_cons_succ, List.getElem?_cons_zero] at hj
    injection hj with hj
    subst hj
    refine ⟨[.slice B y.length d], rfl, ⟨B, d, rfl, hm, hD⟩, fun i u hu => ?_⟩
    rcases i with _ | i
    · rw [List.getElem?_cons_zero] at hu
      injection hu with hu
      subst hu
      rw [add_at]
      exact hk_blk_cell h 1 _ rfl
    · simp at hu
  · simp at hj
def tree_joined.l (k : Nat) : List (List Int) → List (List Int) → List (List Int) → Option (List (List Int))
  | [], _, o => some o
  | [s], _, o => some (o ++ [s])
  | s :: s2 :: ss, n :: n2 :: ns, o => (tree_product.f k [s, n2]).bind fun a => (tree_product.f k [s2, n]).bind fun b => (poly_Add.f k [a, b]).bind fun t => tree_joined.l k ss ns (o ++ [t])
  | _, _, _ => none
def tree_joined.f (k : Nat) (l0 l1 : List (List Int)) : Option (List (List Int)) := if l0.length < 4294967296 then tree_joined.l k l0 l1 [] else none
theorem hk_drop {α : Type} (l : List α) (d : α) {i : Nat} (h : i < l.length) : l.drop i = l.getD i d :: l.drop (i + 1) := by
  rw [List.drop_eq_getElem_cons h, List.getD_eq_getElem?_getD, List.getElem?_eq_getElem h]; rfl
set_option maxHeartbeats 4000000 in
set_option maxRecDepth 100000 in
theorem tree_joined.calls (k : Nat) (A0 : Option Addr) (c0 : Nat) (l0 : List (List Int)) (A1 : Option Addr) (c1 : Nat) (l1 : List (List Int)) (r : List (List Int)) (w : World) (hr0 : Kd.C (Kd.slice 29 (Kd.int .u64)) w A0 l0.length l0) (hr1 : Kd.C (Kd.slice 29 (Kd.int .u64)) w A1 l1.length l1) (h : tree_joined.f k l0 l1 = some r) :
    Calls Try.prog 35 #[.slice A0 l0.length c0, .slice A1 l1.length c1] w fun e w' => ∃ (A : Option Addr) (c : Nat), e = .returned (.slice A r.length c) ∧ r.length ≤ c ∧ Kd.C (Kd.slice 29 (Kd.int .u64)) w' A r.length r ∧ Below w.heap.size w w' := by
  have HR0 := Aside0.mk hr0
  have HR1 := Aside0.mk hr1
  clear hr0 hr1
  unfold tree_joined.f at h
  by_cases hb : l0.length < 4294967296
  · rw [if_pos hb] at h
    have H := Aside0.mk h
    have HBD := Aside0.mk hb
    clear h hb
    have HW := Aside0.mk (Below.refl w.heap.size w)
    go_enter Try.func35, Try.ntmps35
    go_wp2
    go_loopg [5, 6] l0.length (fun kq v5 v6 w' => ∃ (i : Nat) (o : List (List Int)), v6 = .int .i64 (i : Int) ∧ Aside0 (l0.length ≤ i + kq ∧ i ≤ l0.length + 1) ∧ Aside0 (tree_joined.l k (l0.drop i) (l1.drop i) o = some r) ∧ Aside0 (Kd.N (Kd.slice 29 (Kd.int .u64)) 22 w' w.heap.size (fun _ => True) v5 o) ∧ Aside0 (o.length ≤ i) ∧ Aside0 (Below w.heap.size w w'))
    case atStart => exact ⟨0, [], rfl, ⟨by omega, by omega⟩, H, ⟨Kd.N_nil _ _ _ _ _⟩, ⟨Nat.le_refl 0⟩, HW⟩
    case round =>
      clear H HW
      obtain ⟨i, o, rfl, HI, HA, HO, HOL, HB⟩ := hrel
      have hi := HI.out
      have hbd := HBD.out
      by_cases hil : i < l0.length
      · cases gk with
        | zero => exact absurd hi.1 (by omega)
        | succ m =>
          obtain ⟨ad0, As, cs, e0, hxs, hls, hCs⟩ := hk_at1 HR0.out i hil
          subst e0
          have hd := hk_drop l0 [] hil
          have c1' : decide ((i : Int) < (l0.length : Int)) = true := decide_eq_true (by omega)
          have c2' : (i < l0.length) = True := eq_true hil
          have c3' : (0 ≤ (i : Int)) = True := eq_true (by omega)
          have c4' : ((i : Int) < (l0.length : Int)) = True := eq_true (by omega)
          by_cases hi2 : i + 1 < l0.length
          · skip
            have hd1 := hk_drop l0 [] hi2
            rw [hd1] at hd
            rw [hd] at HA
            rcases hn : l1.drop i with _ | ⟨n, _ | ⟨n2, ns⟩⟩
            · rw [hn] at HA; exact absurd HA.out (by simp [tree_joined.l])
            · rw [hn] at HA; exact absurd HA.out (by simp [tree_joined.l])
            · rw [hn] at HA
              have hin : i + 1 < l1.length := by
                have := congrArg List.length hn
                rw [List.length_drop] at this
                simp only [List.length_cons] at this
                omega
              have hn1 := hk_drop l1 [] (show i < l1.length by omega)
              rw [hk_drop l1 [] hin, hn] at hn1
              injection hn1 with n1 hn2
              injection hn2 with n3 n4
              obtain ⟨ad1, An, cn, e1, hxn, hln, hCn⟩ := hk_at1 HR1.out i (by omega)
              subst e1
              obtain ⟨ad2, An2, cn2, e2, hxn2, hln2, hCn2⟩ := hk_at1 HR1.out (i + 1) hin
              injection e2 with e2
              subst e2
              obtain ⟨ad3, As2, cs2, e3, hxs2, hls2, hCs2⟩ := hk_at1 HR0.out (i + 1) hi2
              injection e3 with e3
              subst e3
              rw [← n1] at hxn hln hCn
              rw [← n3] at hxn2 hln2 hCn2
              generalize l0.getD i [] = s at hxs hls hCs HA
              generalize l0.getD (i + 1) [] = s2 at hxs2 hls2 hCs2 HA
              obtain ⟨a, ha, z1⟩ := Option.bind_eq_some_iff.1 (show (tree_product.f k [s, n2]).bind (fun a => (tree_product.f k [s2, n]).bind fun b => (poly_Add.f k [a, b]).bind fun t => tree_joined.l k (l0.drop (i + 2)) ns (o ++ [t])) = some r from HA.out)
              obtain ⟨b, hb, z2⟩ := Option.bind_eq_some_iff.1 z1
              obtain ⟨t, ht, z3⟩ := Option.bind_eq_some_iff.1 z2
              rw [n4] at z3
              have HA2 := Aside0.mk z3
              have HPA := Aside0.mk ha
              have HPB := Aside0.mk hb
              have HPT := Aside0.mk ht
              have d1 : decide ((i : Int) + 1 < (l0.length : Int)) = true := decide_eq_true (by omega)
              have d2 : (i + 1 < l0.length) = True := eq_true hi2
              have d3 : (0 ≤ (i : Int) + 1) = True := eq_true (by omega)
              have d4 : ((i : Int) + 1 < (l1.length : Int)) = True := eq_true (by omega)
              have d5 : ((i : Int) < (l1.length : Int)) = True := eq_true (by omega)
              have d6 : (i + 1 < l1.length) = True := eq_true hin
              have d7 : (i < l1.length) = True := eq_true (by omega)
              have d8 : ((i : Int) + 1 < (l0.length : Int)) = True := eq_true (by omega)
              have d9 : ((i : Int) + 1).toNat = i + 1 := by omega
              have hxs := pw_cell_below HB.out hxs
              have hxn := pw_cell_below HB.out hxn
              have hxn2 := pw_cell_below HB.out hxn2
              have hxs2 := pw_cell_below HB.out hxs2
              have HCs := Aside0.mk (Kd.C_below hCs HB.out)
              have HCn := Aside0.mk (Kd.C_below hCn HB.out)
              have HCn2 := Aside0.mk (Kd.C_below hCn2 HB.out)
              have HCs2 := Aside0.mk (Kd.C_below hCs2 HB.out)
              have hib : i < 4294967296 := by omega
              have HAK := Aside0.mk (show ∀ k, k < w.heap.size ∨ wr.heap.size ≤ k → True ∧ some k ≠ u5.ownBlock from fun k hk => ⟨trivial, fun e => by have h3 := Kd.N_lt HO.out _ e.symm; have h4 := Kd.N_base HO.out _ e.symm; omega⟩)
              have HLM := Aside0.mk (show (o.length + 1) * 24 ≤ 140737488355328 by have := HOL.out; omega)
              have HI7 := Aside0.mk (show l0.length ≤ (i + 2) + m ∧ i + 2 ≤ l0.length + 1 by omega)
              have i1 : IntKind.i64.wrap ((i : Int) + 1) = (i : Int) + 1 := IntWalk.i64_in _ (by omega)
              clear hi hd HA hil hi2 hbd hCs hCn hCn2 hCs2 z1 z2 z3 ha hb ht hd1 hn n1 n3 n4 hin
              obtain ⟨i2, hie⟩ : ∃ i2, i2 = i + 1 := ⟨_, rfl⟩
              rw [← hie] at hxn2 hxs2 d9
              clear hie
              have HLS := Aside0.mk (And.intro (And.intro hls hls) (And.intro hls2 hls2))
              have HLN := Aside0.mk (And.intro hln hln2)
              have HBp := Aside0.mk (Below.refl wr.heap.size wr)
              clear hls hln hls2 hln2
              go_wp2
              go_region_held3 (fun w' => w'.cell? (ad1.add i) = some (.slice An n.length cn) ∧ w'.cell? (ad1.add i2) = some (.slice An2 n2.length cn2) ∧ w'.cell? (ad0.add i2) = some (.slice As2 s2.length cs2))
                (first
                  | (go_keep; done)
                  | exact ⟨pw_cell_below HBp.out hxn, pw_cell_below HBp.out hxn2, pw_cell_below HBp.out hxs2⟩)
                (first
                  | (go_at_call 36; (refine (tree_product.calls k (some ⟨_, 0, none⟩) 2 [s, n2] a _ ?sideA (Nat.le_refl 2) HPA.out).mono ?_); (case sideA => exact hk_box2_C (by first | exact blk_new _ _ | exact hk_new0 _ _ | exact hk_new2 _ _ _ | exact hk_new3 _ _ _) HLS.out.1.1 (Kd.C_below HCs.out (by repeat (first | exact HBp.out | apply below_alloc | apply pw_below_drewN | apply below_drew1))) HLN.out.2 (Kd.C_below HCn2.out (by repeat (first | exact HBp.out | apply below_alloc | apply pw_below_drewN | apply below_drew1)))); rintro e w5 ⟨v5, rfl, hr5, hb5⟩; obtain ⟨A5, c5, rfl⟩ := Kd.R_slice hr5; have n0_ := Aside0.mk (below_step (by repeat (first | exact HBp.out | apply below_alloc | apply pw_below_drewN | apply below_drew1)) hb5); clear HBp; have HBp := n0_; clear n0_)
                  | (go_at_call 36; (refine (tree_product.calls k (some ⟨_, 0, none⟩) 2 [s2, n] b _ ?sideA (Nat.le_refl 2) HPB.out).mono ?_); (case sideA => exact hk_box2_C (by first | exact blk_new _ _ | exact blk_below (hk_new2 _ _ _) hb5 | exact blk_below (hk_new3 _ _ _) hb5) HLS.out.2.1 (Kd.C_below HCs2.out (by repeat (first | exact HBp.out | apply below_alloc | apply pw_below_drewN | apply below_drew1))) HLN.out.1 (Kd.C_below HCn.out (by repeat (first | exact HBp.out | apply below_alloc | apply pw_below_drewN | apply below_drew1)))); rintro e w6 ⟨v6, rfl, hr6, hb6⟩; obtain ⟨A6, c6, rfl⟩ := Kd.R_slice hr6; have HA6 := Aside0.mk (Kd.C_below (Kd.R_reads' hr5).2.2 (below_step (by repeat (first | exact Below.refl _ _ | apply below_alloc)) hb6)); have n0_ := Aside0.mk (below_step (by repeat (first | exact HBp.out | apply below_alloc | apply pw_below_drewN | apply below_drew1)) hb6); clear HBp; have HBp := n0_; clear n0_)
                  | (go_at_call 43; (refine (poly_Add.calls k (some ⟨_, 0, none⟩) 2 [a, b] t _ ?sideA (Nat.le_refl 2) HPT.out).mono ?_); (case sideA => exact hk_box2_C (blk_new _ _) (Kd.R_reads' hr5).2.1 (Kd.C_alloc HA6.out _) (Kd.R_reads' hr6).2.1 (Kd.C_alloc (Kd.R_reads' hr6).2.2 _)); rintro e w7 ⟨v7, rfl, hr7, hb7⟩; obtain ⟨A7, c7, rfl⟩ := Kd.R_slice hr7; have n0_ := Aside0.mk (below_step (by repeat (first | exact HBp.out | apply below_alloc | apply pw_below_drewN | apply below_drew1)) hb7); have hf7 : Kd.F (Kd.int .u64) w7 (fun k => k < w.heap.size ∨ wr.heap.size ≤ k) A7 t.length t := Kd.F_mono (Kd.R_F (Kd.R_bound hr7)) (fun k hk => .inr (Nat.le_trans (below_size (by repeat (first | exact HBp.out | apply below_alloc | apply pw_below_drewN | apply below_drew1))) hk.2.1)); clear HBp; have HBp := n0_; clear n0_))
              all_goals
                have hl7 := (Kd.R_reads' hr7).2.1
                have ho7 := Kd.N_below HO.out HBp.out
                have hbi7 := below_step HB.out HBp.out
                clear hr5 hr6 hr7 hb5 hb6 hb7 HA6
                go_wp2_with ((with_reducible refine gate_builtin (b := .append) (xs := #[.tmp 44, .tmp 46]) rfl ?_); at_builtin; refine Kd.N_append (Kd.slice 29 (Kd.int .u64)) (w0 := w) w.heap.size rfl (.tmp 44) (.tmp 46) 46 22 (.slice none 0 0) 24 rfl Try.underlying46 hk_infoTu rfl (by decide) (by omega) u5 o t [.slice A7 t.length c7] (fun _ => True) (fun k => k < w.heap.size ∨ wr.heap.size ≤ k) rfl ?aX ?aP ?aK ?aF ?aO ?aB ?aS ?aL ?_; (case aX => rfl); (case aP => exact Kd.FK_slice_mk hl7 hf7); (case aK => exact HAK.out); (case aF => exact (fun _ _ => trivial)); (case aO => exact ho7); (case aB => exact hbi7); (case aS => exact hbi7.size); (case aL => exact HLM.out); intro v8 w8 ho8 hb8 hg8 hat8)
                have HB8 := Aside0.mk hb8
                have HO8 := Aside0.mk ho8
                have HOL8 := Aside0.mk (show (o ++ [t]).length ≤ i + 2 by rw [List.length_append, List.length_singleton]; have := HOL.out; omega)
                clear hb8 ho8 hg8 hat8 HB HO HOL HLM HAK hf7 hl7 ho7 hbi7 HBp hxs hxn hxn2 hxs2 c1' c2' c3' c4' d1 d2 d3 d4 d5 d6 d7 d8 d9 i1
                go_wp2
                go_roundg m
                case rel => exact ⟨i + 2, o ++ [t], by go_num, HI7, HA2, HO8, HOL8, HB8⟩
                case measure => exact Nat.lt_succ_self _
          · skip
            have h1 : l0.drop (i + 1) = [] := List.drop_eq_nil_iff.2 (by omega)
            have h2 : l0.drop (i + 2) = [] := List.drop_eq_nil_iff.2 (by omega)
            rw [h1] at hd
            rw [hd] at HA
            generalize l0.getD i [] = s at hxs hls hCs HA
            have HA2 := Aside0.mk (show tree_joined.l k (l0.drop (i + 2)) (l1.drop (i + 2)) (o ++ [s]) = some r by rw [h2]; exact HA.out)
            have d1 : decide ((i : Int) + 1 < (l0.length : Int)) = false := decide_eq_false (by omega)
            have d2 : decide (i + 1 < l0.length) = false := decide_eq_false hi2
            have hxs := pw_cell_below HB.out hxs
            have hib : i < 4294967296 := by omega
            have hfs : Kd.F (Kd.int .u64) wr (fun k => k < w.heap.size ∨ wr.heap.size ≤ k) As s.length s := Kd.F_mono (Kd.F_below (Kd.C_F (Kd.heap_int .u64) hCs) HB.out) (fun k hk => .inl hk)
            have HAK := Aside0.mk (show ∀ k, k < w.heap.size ∨ wr.heap.size ≤ k → True ∧ some k ≠ u5.ownBlock from fun k hk => ⟨trivial, fun e => by have h3 := Kd.N_lt HO.out _ e.symm; have h4 := Kd.N_base HO.out _ e.symm; omega⟩)
            have HLM := Aside0.mk (show (o.length + 1) * 24 ≤ 140737488355328 by have := HOL.out; omega)
            have HI7 := Aside0.mk (show l0.length ≤ (i + 2) + m ∧ i + 2 ≤ l0.length + 1 by omega)
            clear hi h1 h2 hd HA hil hi2 hbd hCs
            go_wp2_with ((with_reducible refine gate_builtin (b := .append) (xs := #[.tmp 44, .tmp 46]) rfl ?_); at_builtin; refine Kd.N_append (Kd.slice 29 (Kd.int .u64)) (w0 := w) w.heap.size rfl (.tmp 44) (.tmp 46) 46 22 (.slice none 0 0) 24 rfl Try.underlying46 hk_infoTu rfl (by decide) (by omega) u5 o s [.slice As s.length cs] (fun _ => True) (fun k => k < w.heap.size ∨ wr.heap.size ≤ k) rfl ?aX ?aP ?aK ?aF ?aO ?aB ?aS ?aL ?_; (case aX => rfl); (case aP => exact Kd.FK_slice_mk hls hfs); (case aK => exact HAK.out); (case aF => exact (fun _ _ => trivial)); (case aO => exact HO.out); (case aB => exact HB.out); (case aS => exact HB.out.size); (case aL => exact HLM.out); intro v8 w8 ho8 hb8 hg8 hat8)
            have HB8 := Aside0.mk hb8
            have HO8 := Aside0.mk ho8
            have HOL8 := Aside0.mk (show (o ++ [s]).length ≤ i + 2 by rw [List.length_append, List.length_singleton]; have := HOL.out; omega)
            clear hb8 ho8 hg8 hat8 HB HO HOL HLM HAK hfs hls hxs c1' c2' c3' c4' d1 d2
            go_wp2
            go_roundg m
            case rel => exact ⟨i + 2, o ++ [s], by go_num, HI7, HA2, HO8, HOL8, HB8⟩
            case measure => exact Nat.lt_succ_self _
      · have hd : l0.drop i = [] := List.drop_eq_nil_iff.2 (by omega)
        rw [hd] at HA
        have ho := Option.some.inj HA.out
        subst ho
        have q1 : decide ((i : Int) < (l0.length : Int)) = false := decide_eq_false (by omega)
        have q2 : (i < l0.length) = False := eq_false hil
        have q3 : decide (i < l0.length) = false := decide_eq_false hil
        clear hi hil hd HA hbd
        go_wp2
        go_ret
        obtain ⟨A5, c5, rfl⟩ := Kd.N_slice HO.out
        exact ⟨A5, c5, rfl, (Kd.N_reads' HO.out).2.1, (Kd.N_reads' HO.out).2.2, HB.out⟩
  · rw [if_neg hb] at h; cases h

end Go.Proofs.Ytkgakohgbbapaaa.PTreeThrough
