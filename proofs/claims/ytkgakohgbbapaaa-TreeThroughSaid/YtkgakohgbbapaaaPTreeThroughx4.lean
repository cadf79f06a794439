-- Written for this claim by wip/gen/mk.sh, this session's own driver over the kit's print
import Derived.Test.YtkgakohgbbapaaaPTreeThroughx0
import Derived.Test.YtkgakohgbbapaaaPTreeThroughx1
import Derived.Test.YtkgakohgbbapaaaPTreeThroughx2
import Derived.Test.YtkgakohgbbapaaaPTreeThroughx3
namespace Go.Proofs.Ytkgakohgbbapaaa.PTreeThrough
open Go.RowKit Go.Proofs.YtkgakohgbbapaaaW.PrintWords Go.Proofs.YtkgakohgbbapaaaW.PrintLast Go.Proofs.YtkgakohgbbapaaaW.PrintMore
attribute [local go_sem] max2_int min2_int max_two min_two max_three min_three max_four min_four   -- for this text's walks alone
set_option linter.unusedVariables false
set_option linter.unusedSimpArgs false

/-! ### twid_Root: function 83 -/
def twid_Root.j0 : Nat → Int → Int → Bool → Option (Int × Int)
  | 0, _, _, _ => none
  | k + 1, x0, x1, x6 => if x6 = true then (some (0, 1)) else (if x1 = 0 then ((root_Root.f k x0).bind fun bt159 => (some (bt159.1, bt159.2))) else (if x1 = 1 then ((root_Back.f k x0).bind fun bt161 => (some (bt161.1, bt161.2))) else (some (0, 18))))
def twid_Root.f (k : Nat) (a0 : Int) (a1 : Int) : Option (Int × Int) := if a0 < 0 then (twid_Root.j0 k a0 a1 true) else (twid_Root.j0 k a0 a1 (decide (a0 > 32)))
set_option maxHeartbeats 8000000 in
set_option maxRecDepth 100000 in
theorem twid_Root.calls (k : Nat) (a0 : Int) (a1 : Int) (r1 : Int) (r2 : Int) (w : World) (h : twid_Root.f k a0 a1 = some (r1, r2)) :
    Calls Try.prog 83 #[.int .i64 a0, .int .i64 a1] w fun e w' => e = .returned (.tuple #[.int .u64 r1, .int .i64 r2]) ∧ Below w.heap.size w w' := by
  have HB := Aside0.mk (Below.refl w.heap.size w)
  have H : (if a0 < 0 then (twid_Root.j0 k a0 a1 true) else (twid_Root.j0 k a0 a1 (decide (a0 > 32)))) = some (r1, r2) := h
  clear h
  have HC3 := Aside0.mk H
  clear H
  go_enter Try.func83, Try.ntmps83
  go_upto_region 1 with (fail)
  go_cut [6] (fun v6 wc => ∃ (kq : Nat) (x6_2 : Bool), v6 = .bool x6_2 ∧ Aside0 (twid_Root.j0 kq a0 a1 x6_2 = some (r1, r2)) ∧ Aside0 (kq ≤ k) ∧ Aside0 (Below w.heap.size w wc))
  case first =>
    have H := HC3.out
    clear HC3
    by_cases c4 : a0 < 0
    · rw [if_pos c4] at H
      have c4b0 : decide (a0 < 0) = true := decide_eq_true c4
      clear c4
      (first | rw [c4b0] | (simp only [i64_w, i32_w]; rw [c4b0]) | skip)
      have H' := Aside0.mk H
      clear H
      go_wp2
      go_meet
      case rel => exact ⟨_, (true), (by first | rfl | (simp; done) | (simp [*]; done)), H', ⟨by first | omega | exact Nat.le_refl _⟩, ⟨by repeat (first | (with_reducible first | exact HB.out | apply below_alloc | apply pw_below_drewN | apply below_drew1) | exact HB.out)⟩⟩
    · rw [if_neg c4] at H
      have c4b0 : decide (a0 < 0) = false := decide_eq_false c4
      clear c4
      (first | rw [c4b0] | (simp only [i64_w, i32_w]; rw [c4b0]) | skip)
      have H' := Aside0.mk H
      clear H
      go_wp2
      go_meet
      case rel => exact ⟨_, (decide (a0 > 32)), (by first | rfl | (simp; done) | (simp [*]; done)), H', ⟨by first | omega | exact Nat.le_refl _⟩, ⟨by repeat (first | (with_reducible first | exact HB.out | apply below_alloc | apply pw_below_drewN | apply below_drew1) | exact HB.out)⟩⟩
  case rest =>
    clear HC3
    try clear p2
    try clear c4
    try clear c4b0
    obtain ⟨kq, x6_2, rfl, HA, HJ2, HB⟩ := hcut
    cases kq with
    | zero => exact absurd HA.out (by simp [twid_Root.j0])
    | succ kj2 =>
      have H := HA.out
      clear HA
      simp only [twid_Root.j0] at H
      by_cases c5 : x6_2 = true
      · subst c5
        have H1 : (some (0, 1)) = some (r1, r2) := by rw [if_pos rfl] at H; exact H
        clear H
        have H := H1
        clear H1
        simp only [Option.some.injEq, Prod.mk.injEq] at H
        obtain ⟨rfl, rfl⟩ := H
        go_wp2
        go_ret2
        exact ⟨by first | rfl | (simp [errW_none, errW_some] <;> rfl) | (simp [*, errW_none, errW_some] <;> rfl), by repeat (first | (with_reducible first | exact HB.out | apply below_alloc | apply pw_below_drewN | apply below_drew1) | exact HB.out)⟩
      · replace c5 := Bool.eq_false_iff.mpr c5
        subst c5
        have H1 : (if a1 = 0 then ((root_Root.f kj2 a0).bind fun bt159 => (some (bt159.1, bt159.2))) else (if a1 = 1 then ((root_Back.f kj2 a0).bind fun bt161 => (some (bt161.1, bt161.2))) else (some (0, 18)))) = some (r1, r2) := by rw [if_neg (show ¬ (false = true) by decide)] at H; exact H
        clear H
        have H := H1
        clear H1
        by_cases c6 : a1 = 0
        · rw [if_pos c6] at H
          have c6b0 : (a1 == 0) = true := beq_iff_eq.mpr c6
          have c6b1 : (a1 != 0) = false := bne_eq_false_iff_eq.mpr c6
          clear c6
          replace H := Option.bind_eq_some_iff.mp H
          obtain ⟨⟨t159, t160⟩, A70, H⟩ := H
          replace H : (some (t159, t160)) = some (r1, r2) := H
          have A7 := Aside0.mk A70
          clear A70
          simp only [Option.some.injEq, Prod.mk.injEq] at H
          obtain ⟨rfl, rfl⟩ := H
          go_wp2_with (first | ((with_reducible refine gate_callee (f := 88) rfl ?_); refine goesL_ (some 17) rfl rfl Try.func88 (by kernel_rfl) rfl #[.int .i64 a0] rfl (by (try simp only [List.map_toArray, List.map_cons, List.map_nil]); first | done | rfl | (simp only [List.length_drop, List.length_take]; rfl)) ?_; (with_reducible refine (root_Root.calls kj2 a0 t159 t160 _ A7.out).mono ?_); rintro e w8 ⟨rfl, hb⟩; refine ⟨_, rfl, ?_⟩; have n0_ := Aside0.mk (below_step (by repeat (first | (with_reducible first | exact HB.out | apply below_alloc | apply pw_below_drewN | apply below_drew1) | exact HB.out)) hb); clear HB; have HB := n0_; clear n0_; (try clear hb); (try clear hb2); (try clear hk); (try clear hi)))
          go_ret2
          exact ⟨by first | rfl | (simp [errW_none, errW_some] <;> rfl) | (simp [*, errW_none, errW_some] <;> rfl), by repeat (first | (with_reducible first | exact HB.out | apply below_alloc | apply pw_below_drewN | apply below_drew1) | exact HB.out)⟩
        · rw [if_neg c6] at H
          have c6b0 : (a1 == 0) = false := beq_eq_false_iff_ne.mpr c6
          have c6b1 : (a1 != 0) = true := bne_iff_ne.mpr c6
          by_cases c9 : a1 = 1
          · rw [if_pos c9] at H
            have c9b0 : (a1 == 1) = true := beq_iff_eq.mpr c9
            have c9b1 : (a1 != 1) = false := bne_eq_false_iff_eq.mpr c9
            clear c9
            replace H := Option.bind_eq_some_iff.mp H
            obtain ⟨⟨t161, t162⟩, A100, H⟩ := H
            replace H : (some (t161, t162)) = some (r1, r2) := H
            have A10 := Aside0.mk A100
            clear A100
            simp only [Option.some.injEq, Prod.mk.injEq] at H
            obtain ⟨rfl, rfl⟩ := H
            go_wp2_with (first | ((with_reducible refine gate_callee (f := 89) rfl ?_); refine goesL_ (some 24) rfl rfl Try.func89 (by kernel_rfl) rfl #[.int .i64 a0] rfl (by (try simp only [List.map_toArray, List.map_cons, List.map_nil]); first | done | rfl | (simp only [List.length_drop, List.length_take]; rfl)) ?_; (with_reducible refine (root_Back.calls kj2 a0 t161 t162 _ A10.out).mono ?_); rintro e w11 ⟨rfl, hb⟩; refine ⟨_, rfl, ?_⟩; have n0_ := Aside0.mk (below_step (by repeat (first | (with_reducible first | exact HB.out | apply below_alloc | apply pw_below_drewN | apply below_drew1) | exact HB.out)) hb); clear HB; have HB := n0_; clear n0_; (try clear hb); (try clear hb2); (try clear hk); (try clear hi)))
            go_ret2
            exact ⟨by first | rfl | (simp [errW_none, errW_some] <;> rfl) | (simp [*, errW_none, errW_some] <;> rfl), by repeat (first | (with_reducible first | exact HB.out | apply below_alloc | apply pw_below_drewN | apply below_drew1) | exact HB.out)⟩
          · rw [if_neg c9] at H
            have c9b0 : (a1 == 1) = false := beq_eq_false_iff_ne.mpr c9
            have c9b1 : (a1 != 1) = true := bne_iff_ne.mpr c9
            simp only [Option.some.injEq, Prod.mk.injEq] at H
            obtain ⟨rfl, rfl⟩ := H
            go_wp2
            go_ret2
            exact ⟨by first | rfl | (simp [errW_none, errW_some] <;> rfl) | (simp [*, errW_none, errW_some] <;> rfl), by repeat (first | (with_reducible first | exact HB.out | apply below_alloc | apply pw_below_drewN | apply below_drew1) | exact HB.out)⟩

/-! ### root_Powers: function 87 -/
mutual
def root_Powers.j0 : Nat → Int → Int → Bool → Option (List Int × Int)
  | 0, _, _, _ => none
  | k + 1, x0, x1, x14 => if x14 = true then (some (([] : List Int), 1)) else (if 0 ≤ x1 then (if (x1 : Int).toNat ≤ 35184372088832 then ((some (List.replicate (x1 : Int).toNat 0 : List Int)).bind fun y163 => (root_Powers.l0 k x0 y163 1 (y163.length : Int) 0)) else (none)) else (none))
def root_Powers.l0 : Nat → Int → List Int → Int → Int → Int → Option (List Int × Int)
  | 0, _, _, _, _, _ => none
  | k + 1, x0, x6, x7, x18, x19 => if x19 < x18 then (if 0 ≤ x19 then (if x19 < (x6.length : Int) then ((gold_Mul.f x7 x0).bind fun t167 => (root_Powers.l0 k x0 (x6.set (x19 : Int).toNat x7) t167 x18 (wrap64 (x19 + 1)))) else (none)) else (none)) else (some (x6, 0))
end
def root_Powers.f (k : Nat) (a0 : Int) (a1 : Int) : Option (List Int × Int) := if a1 < 0 then (root_Powers.j0 k a0 a1 true) else (root_Powers.j0 k a0 a1 (decide (a1 > 1048576)))
set_option maxHeartbeats 8000000 in
set_option maxRecDepth 100000 in
theorem root_Powers.calls (k : Nat) (a0 : Int) (a1 : Int) (r1 : List Int) (r2 : Int) (w : World) (h : root_Powers.f k a0 a1 = some (r1, r2)) :
    Calls Try.prog 87 #[.int .u64 a0, .int .i64 a1] w fun e w' => ∃ v0_ : Value, e = .returned (.tuple #[v0_, .int .i64 r2]) ∧ Kd.R (Kd.int .u64) 29 w' w.heap.size (fun _ => True) v0_ r1 ∧ Below w.heap.size w w' := by
  have HB := Aside0.mk (Below.refl w.heap.size w)
  have H : (if a1 < 0 then (root_Powers.j0 k a0 a1 true) else (root_Powers.j0 k a0 a1 (decide (a1 > 1048576)))) = some (r1, r2) := h
  clear h
  have HC3 := Aside0.mk H
  clear H
  go_enter Try.func87, Try.ntmps87
  go_upto_region 1 with (fail)
  go_cut [14] (fun v14 wc => ∃ (kq : Nat) (x14_2 : Bool), v14 = .bool x14_2 ∧ Aside0 (root_Powers.j0 kq a0 a1 x14_2 = some (r1, r2)) ∧ Aside0 (kq ≤ k) ∧ Aside0 (Below w.heap.size w wc))
  case first =>
    have H := HC3.out
    clear HC3
    by_cases c4 : a1 < 0
    · rw [if_pos c4] at H
      have c4b0 : decide (a1 < 0) = true := decide_eq_true c4
      clear c4
      (first | rw [c4b0] | (simp only [i64_w, i32_w]; rw [c4b0]) | skip)
      have H' := Aside0.mk H
      clear H
      go_wp2
      go_meet
      case rel => exact ⟨_, (true), (by first | rfl | (simp; done) | (simp [*]; done)), H', ⟨by first | omega | exact Nat.le_refl _⟩, ⟨by repeat (first | (with_reducible first | exact HB.out | apply below_alloc | apply pw_below_drewN | apply below_drew1) | exact HB.out)⟩⟩
    · rw [if_neg c4] at H
      have c4b0 : decide (a1 < 0) = false := decide_eq_false c4
      clear c4
      (first | rw [c4b0] | (simp only [i64_w, i32_w]; rw [c4b0]) | skip)
      have H' := Aside0.mk H
      clear H
      go_wp2
      go_meet
      case rel => exact ⟨_, (decide (a1 > 1048576)), (by first | rfl | (simp; done) | (simp [*]; done)), H', ⟨by first | omega | exact Nat.le_refl _⟩, ⟨by repeat (first | (with_reducible first | exact HB.out | apply below_alloc | apply pw_below_drewN | apply below_drew1) | exact HB.out)⟩⟩
  case rest =>
    clear HC3
    try clear p2
    try clear c4
    try clear c4b0
    obtain ⟨kq, x14_2, rfl, HA, HJ2, HB⟩ := hcut
    cases kq with
    | zero => exact absurd HA.out (by simp [root_Powers.j0])
    | succ kj2 =>
      have H := HA.out
      clear HA
      simp only [root_Powers.j0] at H
      by_cases c5 : x14_2 = true
      · subst c5
        have H1 : (some (([] : List Int), 1)) = some (r1, r2) := by rw [if_pos rfl] at H; exact H
        clear H
        have H := H1
        clear H1
        simp only [Option.some.injEq, Prod.mk.injEq] at H
        obtain ⟨rfl, rfl⟩ := H
        go_wp2
        go_ret2
        exact ⟨_, by first | rfl | (simp [errW_none, errW_some] <;> rfl) | (simp [*, errW_none, errW_some] <;> rfl), by first | exact Kd.R_nil _ _ _ _ _ | exact Kd.N_nil _ _ _ _ _ | exact Kd.V_nil _ _ _ _ _ | exact Kd.Q_nil _ _ _ _ _ | exact Kd.S_nil _ _ _ _ _, by repeat (first | (with_reducible first | exact HB.out | apply below_alloc | apply pw_below_drewN | apply below_drew1) | exact HB.out)⟩
      · replace c5 := Bool.eq_false_iff.mpr c5
        subst c5
        have H1 : (if 0 ≤ a1 then (if (a1 : Int).toNat ≤ 35184372088832 then ((some (List.replicate (a1 : Int).toNat 0 : List Int)).bind fun y163 => (root_Powers.l0 kj2 a0 y163 1 (y163.length : Int) 0)) else (none)) else (none)) = some (r1, r2) := by rw [if_neg (show ¬ (false = true) by decide)] at H; exact H
        clear H
        have H := H1
        clear H1
        by_cases c6 : 0 ≤ a1
        · rw [if_pos c6] at H
          have c6b0 := eq_true c6
          have c6b1 : decide (0 ≤ a1) = true := decide_eq_true c6
          clear c6
          by_cases c7 : (a1 : Int).toNat ≤ 35184372088832
          · rw [if_pos c7] at H
            have c7b0 := eq_true c7
            have c7b1 : decide ((a1 : Int).toNat ≤ 35184372088832) = true := decide_eq_true c7
            clear c7
            obtain ⟨y163, hy163⟩ : ∃ y_ : List Int, y_ = (List.replicate (a1 : Int).toNat 0) := ⟨_, rfl⟩
            replace H : (root_Powers.l0 kj2 a0 y163 1 (y163.length : Int) 0) = some (r1, r2) := by first | (rw [hy163]; with_reducible exact H) | (have H2_ := (Option.bind_some _ _).symm.trans H; rw [hy163]; with_reducible exact H2_) | (have H2_ := (Option.bind_some _ _).symm.trans H; with_reducible exact H2_) | with_reducible exact H | (rw [hy163]; exact H) | exact H
            have Ny163 := Aside0.mk hy163
            clear hy163
            have H' := Aside0.mk H
            clear H
            go_wp2_with (first | ((with_reducible refine gate_dst (N := 16) rfl ?_); refine Kd.R_make (Kd.int .u64) _ 29 rfl (N := 16) rfl 22 _ _ rfl a1 rfl rfl Try.underlying22 (.int .u64 0) 8 info29 rfl (by decide) (by omega) 0 (ok := fun _ => True) (okp := fun _ => True) rfl (fun _ hk => hk) trivial (of_decide_eq_true (by first | (with_reducible assumption) | assumption)) (Nat.le_trans (Nat.mul_le_mul_right _ (of_decide_eq_true (by first | (with_reducible assumption) | assumption) : a1.toNat ≤ 35184372088832)) (by omega)) (Below.refl _ _) (Nat.le_refl _) ?_; intro v164 w8 ho9 hb hg_ hnew_; clear hg_ hnew_; (first | rw [← Ny163.out] at ho9 | (simp only [Int.reduceToNat] at ho9; rw [← Ny163.out] at ho9)); have n0_ := Aside0.mk (Kd.R_lower ho9 (below_size (by repeat (first | (with_reducible first | exact HB.out | apply below_alloc | apply pw_below_drewN | apply below_drew1) | exact HB.out)))); have n1_ := Aside0.mk (below_step (by repeat (first | (with_reducible first | exact HB.out | apply below_alloc | apply pw_below_drewN | apply below_drew1) | exact HB.out)) hb); clear HB; have HO165 := n0_; have HB := n1_; clear n0_ n1_; clear hb ho9; obtain ⟨Ao10, co10, eo10⟩ := Kd.R_slice HO165.out; subst eo10))
            go_loopg [7, 19] kj2 (fun kq v7 v19 w' => ∃ (x6_2 : List Int) (x7_2 : Int) (x19_2 : Int), v7 = .int .u64 x7_2 ∧ v19 = .int .i64 x19_2 ∧ Aside0 (root_Powers.l0 kq a0 x6_2 x7_2 (y163.length : Int) x19_2 = some (r1, r2)) ∧ Aside0 (kq ≤ kj2) ∧ Aside0 (Kd.R (Kd.int .u64) 29 w' w.heap.size (fun _ => True) (.slice Ao10 y163.length co10) x6_2) ∧ Aside0 (Below w.heap.size w w'))
            case atStart => exact ⟨(y163), (1), (0), (by first | rfl | (simp; done) | (simp [*]; done)), (by first | rfl | (simp; done) | (simp [*]; done)), H', ⟨Nat.le_refl _⟩, ⟨by (with_reducible repeat (first | apply Kd.R_alloc | apply Kd.R_drewN | apply Kd.R_drew)); exact HO165.out⟩, ⟨by repeat (first | (with_reducible first | exact HB.out | apply below_alloc | apply pw_below_drewN | apply below_drew1) | exact HB.out)⟩⟩
            case round =>
              clear H'
              try clear p2
              try clear c4
              try clear c4b0
              try clear c5
              try clear c6
              try clear c6b0
              try clear c6b1
              try clear c7
              try clear c7b0
              try clear c7b1
              try clear c8
              try clear p2
              obtain ⟨x6_2, x7_2, x19_2, rfl, rfl, HA, HK2, HO_6, HB⟩ := hrel
              have hl6_2 := (Kd.R_reads' HO_6.out).1
              rw [hl6_2] at HO_6
              (try simp only [hl6_2])
              cases gk with
              | zero => exact absurd HA.out (by simp [root_Powers.l0])
              | succ k2 =>
                have H := HA.out
                clear HA
                simp only [root_Powers.l0] at H
                by_cases c11 : x19_2 < (y163.length : Int)
                · rw [if_pos c11] at H
                  have c11b0 : decide (x19_2 < (y163.length : Int)) = true := decide_eq_true c11
                  (try (have c11b0_0 := c11b0; simp only [hl6_2] at c11b0_0))
                  clear c11
                  by_cases c12 : 0 ≤ x19_2
                  · rw [if_pos c12] at H
                    have c12b0 : decide (0 ≤ x19_2) = true := decide_eq_true c12
                    clear c12
                    by_cases c13 : x19_2 < (x6_2.length : Int)
                    · rw [if_pos c13] at H
                      have c13b0 : decide (x19_2 < (x6_2.length : Int)) = true := decide_eq_true c13
                      (try (have c13b0_0 := c13b0; simp only [hl6_2] at c13b0_0))
                      clear c13
                      obtain ⟨y166, hy166⟩ : ∃ y_ : List Int, y_ = (x6_2.set (x19_2 : Int).toNat x7_2) := ⟨_, rfl⟩
                      replace H : ((gold_Mul.f x7_2 a0).bind fun t167 => (root_Powers.l0 k2 a0 y166 t167 (y163.length : Int) (wrap64 (x19_2 + 1)))) = some (r1, r2) := by first | (rw [hy166]; with_reducible exact H) | (have H2_ := (Option.bind_some _ _).symm.trans H; rw [hy166]; with_reducible exact H2_) | (have H2_ := (Option.bind_some _ _).symm.trans H; with_reducible exact H2_) | with_reducible exact H | (rw [hy166]; exact H) | exact H
                      have Ny166 := Aside0.mk hy166
                      clear hy166
                      replace H := Option.bind_eq_some_iff.mp H
                      obtain ⟨t167, A150, H⟩ := H
                      replace H : (root_Powers.l0 k2 a0 y166 t167 (y163.length : Int) (wrap64 (x19_2 + 1))) = some (r1, r2) := H
                      have A15 := Aside0.mk A150
                      clear A150
                      have H' := Aside0.mk H
                      clear H
                      have p14 : 0 ≤ (x19_2 : Int) := of_decide_eq_true (by first | (with_reducible assumption) | assumption)
                      have q14 : (x19_2 : Int) < ((x6_2.length : Int) : Int) := of_decide_eq_true (by first | (with_reducible assumption) | assumption)
                      obtain ⟨go14, co14, eo14, gb14, gl14, cl14, HG14⟩ := Kd.R_form HO_6.out (by omega)
                      (first | cases eo14 | (injection eo14 with ea_ en_ ec_; (first | subst ea_ | (injection ea_ with ea_; subst ea_)); subst ec_; clear en_))
                      have GB14 := Aside0.mk gb14
                      have GG14 := Aside0.mk HG14
                      clear gb14 gl14 HG14
                      obtain ⟨hx14_0, hf14_0⟩ := Kd.R_celln 0 HO_6.out (x19_2 : Int) p14 q14
                      replace p14 := eq_true p14
                      replace q14 := eq_true q14
                      have HP16 := Kd.R_putg HO_6.out (x19_2 : Int) x7_2
                      go_wp2_with (first | ((with_reducible refine gate_store (t := 29) (p := 25) rfl ?_); refine store_event (t := 29) (p := 25) (v := ?vo_w17) (w1 := (wr.setCell ⟨go14, (x19_2 : Int).toNat, none⟩ (.int .u64 x7_2))) ?hg ?ho ?hn ?hr ?_; (case ho => rfl); (case hg => rfl); (case hn => rfl); (case hr => first | (go_simp; done) | (go_simp; rfl)); intro w17 hw; have hg : wr.grownBy w17 (some go14) := (by rw [hw]; exact HP16.2); have hp_ : Kd.R (Kd.int .u64) 29 w17 w.heap.size (fun _ => True) (.slice (some ⟨go14, 0, none⟩) x6_2.length co10) y166 := (by rw [hw, Ny166.out]; exact HP16.1); clear HP16; have n0_ := Aside0.mk (hp_); have n1_ := Aside0.mk ((by rw [hw]; exact below_set (HB.out) GB14.out : Below w.heap.size w w17)); clear HO_6; clear HB; have HO_6 := n0_; have HB := n1_; clear n0_ n1_; clear hg hw hp_) | ((with_reducible refine gate_callee (f := 28) rfl ?_); refine goesL_ (some 28) rfl rfl Try.func28 (by kernel_rfl) rfl #[.int .u64 x7_2, .int .u64 a0] rfl (by (try simp only [List.map_toArray, List.map_cons, List.map_nil]); first | done | rfl | (simp only [List.length_drop, List.length_take]; rfl)) ?_; (with_reducible refine (gold_Mul.calls x7_2 a0 t167 _ A15.out).mono ?_); rintro e w18 ⟨rfl, hb⟩; refine ⟨_, rfl, ?_⟩; have n0_ := Aside0.mk (Kd.R_below (by (with_reducible repeat (first | apply Kd.R_alloc | apply Kd.R_drewN | apply Kd.R_drew)); exact HO_6.out) hb); have n1_ := Aside0.mk (below_step (by repeat (first | (with_reducible first | exact HB.out | apply below_alloc | apply pw_below_drewN | apply below_drew1) | exact HB.out)) hb); clear HO_6; clear HB; have HO_6 := n0_; have HB := n1_; clear n0_ n1_; (try clear hb); (try clear hb2); (try clear hk); (try clear hi)))
                      (try simp only [← hl6_2])
                      (first | go_roundg k2 | (simp only [add_plain] at *; go_roundg k2))
                      case measure => have := HJ2.out; have := HK2.out; omega
                      case rel => exact ⟨(y166), (t167), (wrap64 (x19_2 + 1)), (by first | rfl | (simp; done) | (simp [*]; done)), (by first | rfl | (simp; done) | (simp [*]; done)), H', ⟨by have := HJ2.out; have := HK2.out; omega⟩, ⟨by (try simp only [hl6_2]); (with_reducible repeat (first | apply Kd.R_alloc | apply Kd.R_drewN | apply Kd.R_drew)); exact HO_6.out⟩, ⟨by repeat (first | (with_reducible first | exact HB.out | apply below_alloc | apply pw_below_drewN | apply below_drew1) | exact HB.out)⟩⟩
                    · rw [if_neg c13] at H
                      exact absurd H (by simp)
                  · rw [if_neg c12] at H
                    exact absurd H (by simp)
                · rw [if_neg c11] at H
                  have c11b0 : decide (x19_2 < (y163.length : Int)) = false := decide_eq_false c11
                  (try (have c11b0_0 := c11b0; simp only [hl6_2] at c11b0_0))
                  clear c11
                  simp only [Option.some.injEq, Prod.mk.injEq] at H
                  obtain ⟨rfl, rfl⟩ := H
                  go_wp2
                  go_ret2
                  exact ⟨_, by first | rfl | (simp [errW_none, errW_some] <;> rfl) | (simp [*, errW_none, errW_some] <;> rfl), by (with_reducible repeat (first | apply Kd.R_alloc | apply Kd.R_drewN | apply Kd.R_drew)); exact HO_6.out, by repeat (first | (with_reducible first | exact HB.out | apply below_alloc | apply pw_below_drewN | apply below_drew1) | exact HB.out)⟩
          · rw [if_neg c7] at H
            exact absurd H (by simp)
        · rw [if_neg c6] at H
          exact absurd H (by simp)

/-! ### twid_Table: function 82 -/
def twid_Table.f (k : Nat) (a0 : Int) (a1 : Int) : Option (List Int × Int) := (twid_Root.f k a0 a1).bind fun bt168 => (if bt168.2 = 0 then (if a0 > 20 then (some (([] : List Int), 14)) else (if 0 ≤ (IntKind.u64.wrap (a0)) then ((root_Powers.f k bt168.1 (mx ((shl .i64 1 (IntKind.u64.wrap (a0))) / 2) 1)).bind fun bt170 => (some (bt170.1, bt170.2))) else (none))) else (some (([] : List Int), bt168.2)))
set_option maxHeartbeats 8000000 in
set_option maxRecDepth 100000 in
theorem twid_Table.calls (k : Nat) (a0 : Int) (a1 : Int) (r1 : List Int) (r2 : Int) (w : World) (h : twid_Table.f k a0 a1 = some (r1, r2)) :
    Calls Try.prog 82 #[.int .i64 a0, .int .i64 a1] w fun e w' => ∃ v0_ : Value, e = .returned (.tuple #[v0_, .int .i64 r2]) ∧ Kd.R (Kd.int .u64) 29 w' w.heap.size (fun _ => True) v0_ r1 ∧ Below w.heap.size w w' := by
  have HB := Aside0.mk (Below.refl w.heap.size w)
  have H : ((twid_Root.f k a0 a1).bind fun bt168 => (if bt168.2 = 0 then (if a0 > 20 then (some (([] : List Int), 14)) else (if 0 ≤ (IntKind.u64.wrap (a0)) then ((root_Powers.f k bt168.1 (mx ((shl .i64 1 (IntKind.u64.wrap (a0))) / 2) 1)).bind fun bt170 => (some (bt170.1, bt170.2))) else (none))) else (some (([] : List Int), bt168.2)))) = some (r1, r2) := h
  clear h
  replace H := Option.bind_eq_some_iff.mp H
  obtain ⟨⟨t168, t169⟩, A30, H⟩ := H
  replace H : (if t169 = 0 then (if a0 > 20 then (some (([] : List Int), 14)) else (if 0 ≤ (IntKind.u64.wrap (a0)) then ((root_Powers.f k t168 (mx ((shl .i64 1 (IntKind.u64.wrap (a0))) / 2) 1)).bind fun bt170 => (some (bt170.1, bt170.2))) else (none))) else (some (([] : List Int), t169))) = some (r1, r2) := H
  have A3 := Aside0.mk A30
  clear A30
  by_cases c4 : t169 = 0
  · rw [if_pos c4] at H
    have c4b0 : (t169 == 0) = true := beq_iff_eq.mpr c4
    have c4b1 : (t169 != 0) = false := bne_eq_false_iff_eq.mpr c4
    clear c4
    by_cases c5 : a0 > 20
    · rw [if_pos c5] at H
      have c5b0 : decide (20 < a0) = true := decide_eq_true c5
      clear c5
      simp only [Option.some.injEq, Prod.mk.injEq] at H
      obtain ⟨rfl, rfl⟩ := H
      go_enter Try.func82, Try.ntmps82
      go_wp2_with (first | ((with_reducible refine gate_callee (f := 83) rfl ?_); refine goesL_ (some 11) rfl rfl Try.func83 (by kernel_rfl) rfl #[.int .i64 a0, .int .i64 a1] rfl (by (try simp only [List.map_toArray, List.map_cons, List.map_nil]); first | done | rfl | (simp only [List.length_drop, List.length_take]; rfl)) ?_; (with_reducible refine (twid_Root.calls k a0 a1 t168 t169 _ A3.out).mono ?_); rintro e w6 ⟨rfl, hb⟩; refine ⟨_, rfl, ?_⟩; have n0_ := Aside0.mk (below_step (by repeat (first | (with_reducible first | exact HB.out | apply below_alloc | apply pw_below_drewN | apply below_drew1) | exact HB.out)) hb); clear HB; have HB := n0_; clear n0_; (try clear hb); (try clear hb2); (try clear hk); (try clear hi)))
      go_ret2
      exact ⟨_, by first | rfl | (simp [errW_none, errW_some] <;> rfl) | (simp [*, errW_none, errW_some] <;> rfl), by first | exact Kd.R_nil _ _ _ _ _ | exact Kd.N_nil _ _ _ _ _ | exact Kd.V_nil _ _ _ _ _ | exact Kd.Q_nil _ _ _ _ _ | exact Kd.S_nil _ _ _ _ _, by repeat (first | (with_reducible first | exact HB.out | apply below_alloc | apply pw_below_drewN | apply below_drew1) | exact HB.out)⟩
    · rw [if_neg c5] at H
      have c5b0 : decide (20 < a0) = false := decide_eq_false c5
      clear c5
      obtain ⟨ji7, hji7⟩ : ∃ j_ : Int, (IntKind.u64.wrap (a0)) = j_ := ⟨_, rfl⟩
      replace H : (if 0 ≤ (ji7) then ((root_Powers.f k t168 (mx ((shl .i64 1 (ji7)) / 2) 1)).bind fun bt170 => (some (bt170.1, bt170.2))) else (none)) = some (r1, r2) := by first | (rw [hji7] at H; exact H) | (simp only [hji7] at H ⊢; exact H)
      (try rw [hji7] at A3)
      by_cases c8 : 0 ≤ (ji7)
      · rw [if_pos c8] at H
        have c8b0 := eq_true c8
        have c8b1 : decide (0 ≤ (ji7)) = true := decide_eq_true c8
        clear c8
        obtain ⟨ji9, hji9⟩ : ∃ j_ : Int, (shl .i64 1 (ji7)) = j_ := ⟨_, rfl⟩
        replace H : ((root_Powers.f k t168 (mx ((ji9) / 2) 1)).bind fun bt170 => (some (bt170.1, bt170.2))) = some (r1, r2) := by first | (rw [hji9] at H; exact H) | (simp only [hji9] at H ⊢; exact H)
        (try rw [hji9] at A3)
        have hji9_ : (IntKind.i64.wrap (1 * 2 ^ min (ji7).toNat 64)) = ji9 := hji9
        have hji9z : (ji7) ≤ 64 → (IntKind.i64.wrap (1 * 2 ^ (ji7).toNat)) = ji9 := shl_small hji9
        have hji9u : (IntKind.i64.wrap (2 ^ min (ji7).toNat 64)) = ji9 := by have h_ := hji9_; rw [Int.one_mul] at h_; exact h_
        have hji9v : (ji7) ≤ 64 → (IntKind.i64.wrap (2 ^ (ji7).toNat)) = ji9 := fun hle_ => by have h_ := hji9z hle_; rw [Int.one_mul] at h_; exact h_
        have hji9y : (wrap64 (1 * 2 ^ min (ji7).toNat 64)) = ji9 := (i64_w _).symm.trans hji9_
        have hji9x : (ji7) ≤ 64 → (wrap64 (1 * 2 ^ (ji7).toNat)) = ji9 := fun h_ => (i64_w _).symm.trans (hji9z h_)
        obtain ⟨ji10, hji10⟩ : ∃ j_ : Int, (mx ((ji9) / 2) 1) = j_ := ⟨_, rfl⟩
        replace H : ((root_Powers.f k t168 (ji10)).bind fun bt170 => (some (bt170.1, bt170.2))) = some (r1, r2) := by first | (rw [hji10] at H; exact H) | (simp only [hji10] at H ⊢; exact H)
        (try rw [hji10] at A3)
        have hji10_ : (if ((ji9) / 2) < 1 then 1 else ((ji9) / 2)) = ji10 := hji10
        replace H := Option.bind_eq_some_iff.mp H
        obtain ⟨⟨t170, t171⟩, A110, H⟩ := H
        replace H : (some (t170, t171)) = some (r1, r2) := H
        have A11 := Aside0.mk A110
        clear A110
        simp only [Option.some.injEq, Prod.mk.injEq] at H
        obtain ⟨rfl, rfl⟩ := H
        go_enter Try.func82, Try.ntmps82
        go_wp2_with (first | ((with_reducible refine gate_callee (f := 83) rfl ?_); refine goesL_ (some 11) rfl rfl Try.func83 (by kernel_rfl) rfl #[.int .i64 a0, .int .i64 a1] rfl (by (try simp only [List.map_toArray, List.map_cons, List.map_nil]); first | done | rfl | (simp only [List.length_drop, List.length_take]; rfl)) ?_; (with_reducible refine (twid_Root.calls k a0 a1 t168 t169 _ A3.out).mono ?_); rintro e w12 ⟨rfl, hb⟩; refine ⟨_, rfl, ?_⟩; have n0_ := Aside0.mk (below_step (by repeat (first | (with_reducible first | exact HB.out | apply below_alloc | apply pw_below_drewN | apply below_drew1) | exact HB.out)) hb); clear HB; have HB := n0_; clear n0_; (try clear hb); (try clear hb2); (try clear hk); (try clear hi)) | ((with_reducible refine gate_callee (f := 87) rfl ?_); refine goesL_ (some 27) rfl rfl Try.func87 (by kernel_rfl) rfl #[.int .u64 t168, .int .i64 ji10] rfl (by (try simp only [List.map_toArray, List.map_cons, List.map_nil]); first | done | (simp only [hji10]; rfl) | rfl | (simp only [List.length_drop, List.length_take]; rfl)) ?_; (with_reducible refine (root_Powers.calls k t168 ji10 t170 t171 _ A11.out).mono ?_); rintro e w13 ⟨v172, rfl, ho0, hb⟩; refine ⟨_, rfl, ?_⟩; have n0_ := Aside0.mk (Kd.R_lower ho0 (below_size (by repeat (first | (with_reducible first | exact HB.out | apply below_alloc | apply pw_below_drewN | apply below_drew1) | exact HB.out)))); have n1_ := Aside0.mk (below_step (by repeat (first | (with_reducible first | exact HB.out | apply below_alloc | apply pw_below_drewN | apply below_drew1) | exact HB.out)) hb); clear HB; have HO173 := n0_; have HB := n1_; clear n0_ n1_; (try clear hb); (try clear hb2); (try clear hk); (try clear hi); (try clear ho0)))
        go_ret2
        exact ⟨_, by first | rfl | (simp [errW_none, errW_some] <;> rfl) | (simp only [← hji7, ← hji9, ← hji10]; first | rfl | (simp [errW_none, errW_some] <;> rfl)) | (simp [*, errW_none, errW_some] <;> rfl), by (with_reducible repeat (first | apply Kd.R_alloc | apply Kd.R_drewN | apply Kd.R_drew)); exact HO173.out, by repeat (first | (with_reducible first | exact HB.out | apply below_alloc | apply pw_below_drewN | apply below_drew1) | exact HB.out)⟩
      · rw [if_neg c8] at H
        exact absurd H (by simp)
  · rw [if_neg c4] at H
    have c4b0 : (t169 == 0) = false := beq_eq_false_iff_ne.mpr c4
    have c4b1 : (t169 != 0) = true := bne_iff_ne.mpr c4
    simp only [Option.some.injEq, Prod.mk.injEq] at H
    obtain ⟨rfl, rfl⟩ := H
    go_enter Try.func82, Try.ntmps82
    go_wp2_with (first | ((with_reducible refine gate_callee (f := 83) rfl ?_); refine goesL_ (some 11) rfl rfl Try.func83 (by kernel_rfl) rfl #[.int .i64 a0, .int .i64 a1] rfl (by (try simp only [List.map_toArray, List.map_cons, List.map_nil]); first | done | rfl | (simp only [List.length_drop, List.length_take]; rfl)) ?_; (with_reducible refine (twid_Root.calls k a0 a1 t168 t169 _ A3.out).mono ?_); rintro e w14 ⟨rfl, hb⟩; refine ⟨_, rfl, ?_⟩; have n0_ := Aside0.mk (below_step (by repeat (first | (with_reducible first | exact HB.out | apply below_alloc | apply pw_below_drewN | apply below_drew1) | exact HB.out)) hb); clear HB; have HB := n0_; clear n0_; (try clear hb); (try clear hb2); (try clear hk); (try clear hi)))
    go_ret2
    exact ⟨_, by first | rfl | (simp [errW_none, errW_some] <;> rfl) | (simp [*, errW_none, errW_some] <;> rfl), by first | exact Kd.R_nil _ _ _ _ _ | exact Kd.N_nil _ _ _ _ _ | exact Kd.V_nil _ _ _ _ _ | exact Kd.Q_nil _ _ _ _ _ | exact Kd.S_nil _ _ _ _ _, by repeat (first | (with_reducible first | exact HB.out | apply below_alloc | apply pw_below_drewN | apply below_drew1) | exact HB.out)⟩

/-! ### kern2_New: function 75 (by hand) -/
set_option maxHeartbeats 8000000 in
set_option maxRecDepth 100000 in
theorem kern2_New.calls (k : Nat) (a : Int) (t0 t1 : List Int) (e0 e1 s es : Int) (w : World) (h0 : decide (a < 0) = false) (h1 : decide (20 < a) = false) (H0 : twid_Table.f k a 0 = some (t0, e0)) (H1 : twid_Table.f k a 1 = some (t1, e1)) (HS : twid_Share.f k a = some (s, es)) :
    Calls Try.prog 75 #[.int .i64 a] w fun e w' => ∃ (v0 v1 : Value), e = .returned (.pointer (some ⟨w.heap.size, 0, none⟩)) ∧ Below w.heap.size w w' ∧ w'.heap[w.heap.size]? = some (.cells #[v0, v1, .int .u64 s, .int .i64 a] 104 (0,0)) ∧ Kd.R (Kd.int .u64) 29 w' w.heap.size (fun j => j ≠ w.heap.size) v0 t0 ∧ Kd.R (Kd.int .u64) 29 w' w.heap.size (fun j => j ≠ w.heap.size) v1 t1 := by
  have A0 := Aside0.mk H0
  have A1 := Aside0.mk H1
  have AS := Aside0.mk HS
  clear H0 H1 HS
  go_enter Try.func75, Try.ntmps75
  go_wp2
  have X := Aside0.mk (show (w.alloc (.cells #[.slice none 0 0, .slice none 0 0, .int .u64 0, .int .i64 a] 104)).heap[w.heap.size]? = some (.cells #[.slice none 0 0, .slice none 0 0, .int .u64 0, .int .i64 a] 104 (0,0)) from Array.getElem?_push_size)
  have B := Aside0.mk ((Below.refl w.heap.size w).alloc (Nat.le_refl _) (.cells #[.slice none 0 0, .slice none 0 0, .int .u64 0, .int .i64 a] 104))
  have Z := Aside0.mk (show w.heap.size < (w.alloc (.cells #[.slice none 0 0, .slice none 0 0, .int .u64 0, .int .i64 a] 104)).heap.size by simp)
  obtain ⟨b, hb⟩ : ∃ b, b = w.heap.size := ⟨_, rfl⟩
  rw [← hb] at X B Z ⊢
  have Hb := Aside0.mk hb
  clear hb
  generalize w.alloc (.cells #[.slice none 0 0, .slice none 0 0, .int .u64 0, .int .i64 a] 104) = W1 at X B Z ⊢
  refine wp_loop_rounds 3 ?_
  rw [rounds_succ]
  go_wp2
  go_region_with ((go_at_call 82; (with_reducible refine (twid_Table.calls k a 0 t0 e0 _ A0.out).mono ?_); rintro e w1 ⟨v0, rfl, hR0, hB0⟩; obtain ⟨A_, c_, rfl⟩ := Kd.R_slice hR0; have X1 := (hB0.block _ Z.out).trans X.out; have f0 := hk_blk_frozen X1 0; have c0 := hk_blk_cell X1 0 _ rfl; have hX1 := Aside0.mk X1; clear X1; have X1 := hX1; clear hX1; have hR0 := Aside0.mk hR0; have hB0 := Aside0.mk hB0))
  clear c0 f0
  have X2 := Aside0.mk (blk_put X1.out 0 (.slice A_ t0.length c_) rfl)
  have R2 := Aside0.mk (Kd.R_far (hk_R_out hR0.out Z.out) (p := ⟨b, 0, none⟩) (fun k hk => hk) (.slice A_ t0.length c_))
  have B2 := Aside0.mk (((B.out.drew.trans (hB0.out.mono (Nat.le_of_lt Z.out))).setCell (p := ⟨b, 0, none⟩) (Nat.le_refl _) (.slice A_ t0.length c_)))
  have Z2 := Aside0.mk (show b < (w1.setCell ⟨b, 0, none⟩ (.slice A_ t0.length c_)).heap.size by have := hB0.out.size; have := Z.out; simp at *; omega)
  clear X1 hR0 hB0 X B Z
  generalize w1.setCell ⟨b, 0, none⟩ (.slice A_ t0.length c_) = W2 at X2 R2 B2 Z2 ⊢
  go_wp2
  rw [rounds_succ]
  go_wp2
  go_region_with ((go_at_call 82; (with_reducible refine (twid_Table.calls k a 1 t1 e1 _ A1.out).mono ?_); rintro e w3 ⟨v1, rfl, hR1, hB1⟩; obtain ⟨D_, d_, rfl⟩ := Kd.R_slice hR1; have X3 := (hB1.block _ Z2.out).trans X2.out; have f0 := hk_blk_frozen X3 1; have c0 := hk_blk_cell X3 1 _ rfl; have hX3 := Aside0.mk X3; clear X3; have X3 := hX3; clear hX3; have hR1 := Aside0.mk hR1; have hB1 := Aside0.mk hB1))
  clear c0 f0
  have X4 := Aside0.mk (blk_put X3.out 1 (.slice D_ t1.length d_) rfl)
  have R4 := Aside0.mk (Kd.R_far (hk_R_out hR1.out Z2.out) (p := ⟨b, 1, none⟩) (fun k hk => hk) (.slice D_ t1.length d_))
  have R2' := Aside0.mk (Kd.R_far (Kd.R_below (Kd.R_drew R2.out) hB1.out) (p := ⟨b, 1, none⟩) (fun k hk => hk) (.slice D_ t1.length d_))
  have B4 := Aside0.mk (((B2.out.drew.trans (hB1.out.mono (Nat.le_of_lt Z2.out))).setCell (p := ⟨b, 1, none⟩) (Nat.le_refl _) (.slice D_ t1.length d_)))
  have Z4 := Aside0.mk (show b < (w3.setCell ⟨b, 1, none⟩ (.slice D_ t1.length d_)).heap.size by have := hB1.out.size; have := Z2.out; simp at *; omega)
  clear X3 hR1 hB1 X2 B2 Z2 R2
  generalize w3.setCell ⟨b, 1, none⟩ (.slice D_ t1.length d_) = W4 at X4 R4 R2' B4 Z4 ⊢
  go_wp2
  rw [rounds_succ]
  go_wp2_with ((go_at_call 78; (with_reducible refine (twid_Share.calls k a s es _ AS.out).mono ?_); rintro e w5 ⟨rfl, hBs⟩; have X5 := (hBs.block _ Z4.out).trans X4.out; have f5 := hk_blk_frozen X5 2; have c5 := hk_blk_cell X5 2 _ rfl; have hX5 := Aside0.mk X5; clear X5; have X5 := hX5; clear hX5; have hBs := Aside0.mk hBs))
  clear f5 c5
  have X6 := Aside0.mk (blk_put X5.out 2 (.int .u64 s) rfl)
  have B6 := Aside0.mk ((B4.out.trans (hBs.out.mono (Nat.le_of_lt Z4.out))).setCell (p := ⟨b, 2, none⟩) (Nat.le_refl _) (.int .u64 s))
  have R6 := Aside0.mk (Kd.R_far (Kd.R_below R2'.out hBs.out) (p := ⟨b, 2, none⟩) (fun k hk => hk) (.int .u64 s))
  have R6' := Aside0.mk (Kd.R_far (Kd.R_below R4.out hBs.out) (p := ⟨b, 2, none⟩) (fun k hk => hk) (.int .u64 s))
  generalize w5.setCell ⟨b, 2, none⟩ (.int .u64 s) = W6 at X6 B6 R6 R6' ⊢
  go_ret
  rw [← Hb.out]
  exact ⟨_, _, rfl, B6.out, X6.out, R6.out, R6'.out⟩
/-- A kernel's tables, by halves. -/
def hk_tabs2 (n k : Nat) (t0 t1 : List Int) (s : Int) : Prop := ∃ (e0 e1 es : Int), twid_Table.f n (k : Int) 0 = some (t0, e0) ∧ twid_Table.f n (k : Int) 1 = some (t1, e1) ∧ twid_Share.f n (k : Int) = some (s, es)
theorem hk_New2.at (n a : Nat) (t0 t1 : List Int) (s : Int) (w : World) (ha : a ≤ 20) (h : hk_tabs2 n a t0 t1 s) :
    Calls Try.prog 75 #[.int .i64 (a : Int)] w fun e w' => ∃ b, e = .returned (.pointer (some ⟨b, 0, none⟩)) ∧ Below w.heap.size w w' ∧ hk_K2 a t0 t1 s w.heap.size w'.heap.size b w' := by
  obtain ⟨e0, e1, es, h1, h2, h3⟩ := h
  refine (kern2_New.calls n a t0 t1 e0 e1 s es w (decide_eq_false (by omega)) (decide_eq_false (by omega)) h1 h2 h3).mono ?_
  rintro e w' ⟨v0, v1, rfl, hB, hX, hR0, hR1⟩
  exact ⟨w.heap.size, rfl, hB, ⟨Nat.le_refl _, blk_lt hX⟩, v0, v1, hX, Kd.R_mono (Kd.R_bound hR0) (fun j hj => hj.2.2.1), Kd.R_mono (Kd.R_bound hR1) (fun j hj => hj.2.2.1)⟩

/-! ### kern4_whole: function 76 -/
def kern4_whole.l0 : Nat → List Int → List Int → Int → Int → Option (List Int)
  | 0, _, _, _, _ => none
  | k + 1, x7, x21, x22, x23 => if x23 < x22 then (if 0 ≤ x23 then (if x23 < (x21.length : Int) then ((gold_Neg.f (rd x21 x23)).bind fun t185 => (if x7.length < 17592186044416 then (kern4_whole.l0 k (x7 ++ [t185]) x21 x22 (wrap64 (x23 + 1))) else (none))) else (none)) else (none)) else (some x7)
def kern4_whole.f (k : Nat) (a0 : Int) (a1 : Int) : Option (List Int) := (twid_Table.f k a0 a1).bind fun bt174 => ((some (([] : List Int) : List Int)).bind fun y178 => (if y178.length + bt174.1.length < 17592186044416 then ((some (y178 ++ bt174.1 : List Int)).bind fun y181 => (if a0 > 0 then (kern4_whole.l0 k y181 bt174.1 (bt174.1.length : Int) 0) else (some y181))) else (none)))
set_option maxHeartbeats 80000000 in
set_option maxRecDepth 100000 in
theorem kern4_whole.calls (k : Nat) (a0 : Int) (a1 : Int) (r : List Int) (w : World) (h : kern4_whole.f k a0 a1 = some r) :
    Calls Try.prog 76 #[.int .i64 a0, .int .i64 a1] w fun e w' => ∃ v0_ : Value, e = .returned (v0_) ∧ Kd.R (Kd.int .u64) 29 w' w.heap.size (fun _ => True) v0_ r ∧ Below w.heap.size w w' := by
  have HB := Aside0.mk (Below.refl w.heap.size w)
  have H : ((twid_Table.f k a0 a1).bind fun bt174 => ((some (([] : List Int) : List Int)).bind fun y178 => (if y178.length + bt174.1.length < 17592186044416 then ((some (y178 ++ bt174.1 : List Int)).bind fun y181 => (if a0 > 0 then (kern4_whole.l0 k y181 bt174.1 (bt174.1.length : Int) 0) else (some y181))) else (none)))) = some r := h
  clear h
  replace H := Option.bind_eq_some_iff.mp H
  obtain ⟨⟨t174, t175⟩, A30, H⟩ := H
  replace H : ((some (([] : List Int) : List Int)).bind fun y178 => (if y178.length + t174.length < 17592186044416 then ((some (y178 ++ t174 : List Int)).bind fun y181 => (if a0 > 0 then (kern4_whole.l0 k y181 t174 (t174.length : Int) 0) else (some y181))) else (none))) = some r := H
  have A3 := Aside0.mk A30
  clear A30
  obtain ⟨y178, hy178⟩ : ∃ y_ : List Int, y_ = (([] : List Int)) := ⟨_, rfl⟩
  replace H : (if y178.length + t174.length < 17592186044416 then ((some (y178 ++ t174 : List Int)).bind fun y181 => (if a0 > 0 then (kern4_whole.l0 k y181 t174 (t174.length : Int) 0) else (some y181))) else (none)) = some r := by first | (rw [hy178]; with_reducible exact H) | (have H2_ := (Option.bind_some _ _).symm.trans H; rw [hy178]; with_reducible exact H2_) | (have H2_ := (Option.bind_some _ _).symm.trans H; with_reducible exact H2_) | with_reducible exact H | (rw [hy178]; exact H) | exact H
  have Ny178 := Aside0.mk hy178
  clear hy178
  by_cases c4 : y178.length + t174.length < 17592186044416
  · rw [if_pos c4] at H
    have LMc4 := Aside0.mk c4
    clear c4
    obtain ⟨y181, hy181⟩ : ∃ y_ : List Int, y_ = (y178 ++ t174) := ⟨_, rfl⟩
    replace H : (if a0 > 0 then (kern4_whole.l0 k y181 t174 (t174.length : Int) 0) else (some y181)) = some r := by first | (rw [hy181]; with_reducible exact H) | (have H2_ := (Option.bind_some _ _).symm.trans H; rw [hy181]; with_reducible exact H2_) | (have H2_ := (Option.bind_some _ _).symm.trans H; with_reducible exact H2_) | with_reducible exact H | (rw [hy181]; exact H) | exact H
    have Ny181 := Aside0.mk hy181
    clear hy181
    by_cases c5 : a0 > 0
    · rw [if_pos c5] at H
      have c5b0 : decide (0 < a0) = true := decide_eq_true c5
      clear c5
      have H' := Aside0.mk H
      clear H
      go_enter Try.func76, Try.ntmps76
      go_wp2_with (first | ((with_reducible refine gate_callee (f := 82) rfl ?_); refine goesL_ (some 13) rfl rfl Try.func82 (by kernel_rfl) rfl #[.int .i64 a0, .int .i64 a1] rfl (by (try simp only [List.map_toArray, List.map_cons, List.map_nil]); first | done | rfl | (simp only [List.length_drop, List.length_take]; rfl)) ?_; (with_reducible refine (twid_Table.calls k a0 a1 t174 t175 _ A3.out).mono ?_); rintro e w6 ⟨v176, rfl, ho0, hb⟩; refine ⟨_, rfl, ?_⟩; have n0_ := Aside0.mk (Kd.R_lower ho0 (below_size (by repeat (first | (with_reducible first | exact HB.out | apply below_alloc | apply pw_below_drewN | apply below_drew1) | exact HB.out)))); have n1_ := Aside0.mk (below_step (by repeat (first | (with_reducible first | exact HB.out | apply below_alloc | apply pw_below_drewN | apply below_drew1) | exact HB.out)) hb); clear HB; have HO177 := n0_; have HB := n1_; clear n0_ n1_; (try clear hb); (try clear hb2); (try clear hk); (try clear hi); (try clear ho0)) | (go_at_call 82; (with_reducible refine (twid_Table.calls k a0 a1 t174 t175 _ A3.out).mono ?_); rintro e w6 ⟨v176, rfl, ho0, hb⟩; have n0_ := Aside0.mk (Kd.R_lower ho0 (below_size (by repeat (first | (with_reducible first | exact HB.out | apply below_alloc | apply pw_below_drewN | apply below_drew1) | exact HB.out)))); have n1_ := Aside0.mk (below_step (by repeat (first | (with_reducible first | exact HB.out | apply below_alloc | apply pw_below_drewN | apply below_drew1) | exact HB.out)) hb); clear HB; have HO177 := n0_; have HB := n1_; clear n0_ n1_; (try clear hb); (try clear hb2); (try clear hk); (try clear hi); (try clear ho0)) | ((with_reducible refine gate_dst (N := 16) rfl ?_); refine Kd.R_lit (Kd.int .u64) _ 29 ?hg (N := 16) ?hd (xs := ([] : List Int)) (inner := []) (ok := fun _ => True) (okp := fun _ => True) ?hr ?hp (fun _ hk => hk) trivial (Below.refl _ _) (Nat.le_refl _) (by simp) ?_; (case hd => rfl); (case hg => rfl); (case hr => first | (go_simp; done) | (go_simp; rfl)); (case hp => exact (Reps.none _ _)); intro v179 w7 ho8 hb hg_ hnew_; clear hg_ hnew_; (first | rw [← Ny178.out] at ho8 | (simp only [Int.reduceToNat] at ho8; rw [← Ny178.out] at ho8)); have n0_ := Aside0.mk (Kd.R_elder' (by (with_reducible repeat (first | apply Kd.R_alloc | apply Kd.R_drewN | apply Kd.R_drew)); exact HO177.out) (Kd.R_base ho8) hb); have n1_ := Aside0.mk (Kd.R_lower (Kd.R_new' ho8 (Kd.R_lt (by (with_reducible repeat (first | apply Kd.R_alloc | apply Kd.R_drewN | apply Kd.R_drew)); exact HO177.out))) (below_size (by repeat (first | (with_reducible first | exact HB.out | apply below_alloc | apply pw_below_drewN | apply below_drew1) | exact HB.out)))); have n2_ := Aside0.mk (below_step (by repeat (first | (with_reducible first | exact HB.out | apply below_alloc | apply pw_below_drewN | apply below_drew1) | exact HB.out)) hb); clear HO177; clear HB; have HO177 := n0_; have HO180 := n1_; have HB := n2_; clear n0_ n1_ n2_; clear hb ho8; obtain ⟨Ao10, co10, eo10⟩ := Kd.R_slice HO177.out; subst eo10) | ((with_reducible refine gate_builtin (b := .append) (xs := #[.tmp 16, .tmp 17]) rfl ?_); at_builtin; refine Kd.R_append_rows (Kd.int .u64) (w0 := w) w.heap.size rfl (.tmp 16) (.tmp 17) 22 29 (.int .u64 0) 8 rfl Try.underlying22 info29 rfl (by decide) (by omega) v179 y178 t174 _ _ _ (fun k_ => some k_ ≠ (.slice Ao10 t174.length co10 : Value).ownBlock) (fun _ => False) rfl rfl ?aO ?aR (fun _ _ h => h) (fun _ h => h.elim) ?aF ?aB ?aS ?aL ?_; (case aR => repeat (first | exact (Kd.R_reads' HO177.out).2.2 | (with_reducible refine Kd.C_alloc ?_ _) | (with_reducible refine Kd.C_drewN ?_ _) | (with_reducible refine Kd.C_drew ?_))); (case aB => exact (by repeat (first | (with_reducible first | exact HB.out | apply below_alloc | apply pw_below_drewN | apply below_drew1) | exact HB.out))); (case aF => exact (fun k_ hk => Kd.fresh' (Kd.R_lt (by (with_reducible repeat (first | apply Kd.R_alloc | apply Kd.R_drewN | apply Kd.R_drew)); exact HO177.out)) k_ hk)); (case aO => exact (by (with_reducible repeat (first | apply Kd.R_alloc | apply Kd.R_drewN | apply Kd.R_drew)); exact Kd.R_mono HO180.out (fun _ hk => hk.2))); (case aS => exact (below_size (by repeat (first | (with_reducible first | exact HB.out | apply below_alloc | apply pw_below_drewN | apply below_drew1) | exact HB.out)))); (case aL => have := LMc4.out; omega); intro v182 w9 ho hb hg hat; rw [← Ny181.out] at ho; have n0_ := Aside0.mk (Kd.R_after (ok := (fun _ => True)) (by (with_reducible repeat (first | apply Kd.R_alloc | apply Kd.R_drewN | apply Kd.R_drew)); exact HO177.out) hg hat); have n1_ := Aside0.mk (hb); have n2_ := Aside0.mk (ho); clear HO177; clear HB; clear HO180; have HO177 := n0_; have HB := n1_; have HO183 := n2_; clear n0_ n1_ n2_; clear ho hb hg hat))
      go_loopg [7, 23] k (fun kq v7 v23 w' => ∃ (x7_1 : List Int) (x23_1 : Int), v23 = .int .i64 x23_1 ∧ Aside0 (kern4_whole.l0 kq x7_1 t174 (t174.length : Int) x23_1 = some r) ∧ Aside0 (kq ≤ k) ∧ Aside0 (Kd.R (Kd.int .u64) 29 w' w.heap.size (fun k_ => some k_ ≠ ((.slice Ao10 t174.length co10) : Value).ownBlock) v7 x7_1) ∧ Aside0 (Kd.R (Kd.int .u64) 29 w' w.heap.size (fun k_ => some k_ ≠ (v7 : Value).ownBlock) (.slice Ao10 t174.length co10) t174) ∧ Aside0 (Below w.heap.size w w'))
      case atStart => exact ⟨(y181), (0), (by first | rfl | (simp; done) | (simp [*]; done)), H', ⟨Nat.le_refl _⟩, ⟨by (with_reducible repeat (first | apply Kd.R_alloc | apply Kd.R_drewN | apply Kd.R_drew)); exact HO183.out⟩, ⟨by (with_reducible repeat (first | apply Kd.R_alloc | apply Kd.R_drewN | apply Kd.R_drew)); exact Kd.R_mono HO177.out (fun _ hk => hk.2)⟩, ⟨by repeat (first | (with_reducible first | exact HB.out | apply below_alloc | apply pw_below_drewN | apply below_drew1) | exact HB.out)⟩⟩
      case round =>
        clear H'
        try clear p2
        try clear c4
        try clear c5
        try clear c5b0
        try clear c7
        try clear c8
        obtain ⟨x7_1, x23_1, rfl, HA, HK1, HO_7, HO_21, HB⟩ := hrel
        cases gk with
        | zero => exact absurd HA.out (by simp [kern4_whole.l0])
        | succ k1 =>
          have H := HA.out
          clear HA
          simp only [kern4_whole.l0] at H
          by_cases c11 : x23_1 < (t174.length : Int)
          · rw [if_pos c11] at H
            have c11b0 : decide (x23_1 < (t174.length : Int)) = true := decide_eq_true c11
            clear c11
            by_cases c12 : 0 ≤ x23_1
            · rw [if_pos c12] at H
              have c12b0 : decide (0 ≤ x23_1) = true := decide_eq_true c12
              clear c12
              by_cases c13 : x23_1 < (t174.length : Int)
              · rw [if_pos c13] at H
                have c13b0 : decide (x23_1 < (t174.length : Int)) = true := decide_eq_true c13
                clear c13
                replace H := Option.bind_eq_some_iff.mp H
                obtain ⟨t185, A140, H⟩ := H
                replace H : (if x7_1.length < 17592186044416 then (kern4_whole.l0 k1 (x7_1 ++ [t185]) t174 (t174.length : Int) (wrap64 (x23_1 + 1))) else (none)) = some r := H
                have A14 := Aside0.mk A140
                clear A140
                by_cases c15 : x7_1.length < 17592186044416
                · rw [if_pos c15] at H
                  have LMc15 := Aside0.mk c15
                  clear c15
                  obtain ⟨y186, hy186⟩ : ∃ y_ : List Int, y_ = (x7_1 ++ [t185]) := ⟨_, rfl⟩
                  replace H : (kern4_whole.l0 k1 y186 t174 (t174.length : Int) (wrap64 (x23_1 + 1))) = some r := by first | (rw [hy186]; with_reducible exact H) | (have H2_ := (Option.bind_some _ _).symm.trans H; rw [hy186]; with_reducible exact H2_) | (have H2_ := (Option.bind_some _ _).symm.trans H; with_reducible exact H2_) | with_reducible exact H | (rw [hy186]; exact H) | exact H
                  have Ny186 := Aside0.mk hy186
                  clear hy186
                  have H' := Aside0.mk H
                  clear H
                  have p184 : 0 ≤ (x23_1 : Int) := of_decide_eq_true (by first | (with_reducible assumption) | assumption)
                  have q184 : x23_1 < (t174.length : Int) := of_decide_eq_true (by first | (with_reducible assumption) | assumption)
                  (try (first | (have hq_ := Kd.R_reads' HO_21.out; clear hq_) | (obtain ⟨AoQ184, coQ184, eoQ184⟩ := Kd.R_slice HO_21.out; subst eoQ184)))
                  obtain ⟨ad184, e184, hx184_0⟩ := Kd.at_int (Kd.R_reads' HO_21.out).2.2 x23_1 p184 q184
                  cases e184
                  replace p184 := eq_true p184
                  replace q184 := eq_true q184
                  go_wp2_with (first | ((with_reducible refine gate_callee (f := 24) rfl ?_); refine goesL_ (some 29) rfl rfl Try.func24 (by kernel_rfl) rfl #[.int .u64 (rd t174 x23_1)] rfl (by (try simp only [List.map_toArray, List.map_cons, List.map_nil]); first | done | rfl | (simp only [List.length_drop, List.length_take]; rfl)) ?_; (with_reducible refine (gold_Neg.calls (rd t174 x23_1) t185 _ A14.out).mono ?_); rintro e w' ⟨rfl, ⟨nd, rfl⟩⟩; refine ⟨_, rfl, ?_⟩) | (go_at_call 24; (with_reducible refine (gold_Neg.calls (rd t174 x23_1) t185 _ A14.out).mono ?_); rintro e w' ⟨rfl, ⟨nd, rfl⟩⟩) | ((with_reducible refine gate_builtin (b := .append) (xs := #[.tmp 27, .tmp 30]) rfl ?_); at_builtin; refine Kd.R_append (Kd.int .u64) (w0 := w) w.heap.size rfl (.tmp 27) (.tmp 30) 22 29 (.int .u64 0) 8 rfl Try.underlying22 info29 rfl (by decide) (by omega) u7 x7_1 t185 [.int .u64 t185] (fun k_ => some k_ ≠ (.slice (some ad184) t174.length co10 : Value).ownBlock) (fun _ => False) rfl rfl ?aP (fun _ hk => hk.elim) ?aF ?aO ?aB ?aS ?aL ?_; (case aP => exact rfl); (case aB => exact (by repeat (first | (with_reducible first | exact HB.out | apply below_alloc | apply pw_below_drewN | apply below_drew1) | exact HB.out))); (case aF => exact (fun k_ hk => Kd.fresh' (Kd.R_lt (by (with_reducible repeat (first | apply Kd.R_alloc | apply Kd.R_drewN | apply Kd.R_drew)); exact HO_21.out)) k_ hk)); (case aO => exact (by (with_reducible repeat (first | apply Kd.R_alloc | apply Kd.R_drewN | apply Kd.R_drew)); exact HO_7.out)); (case aS => exact (below_size (by repeat (first | (with_reducible first | exact HB.out | apply below_alloc | apply pw_below_drewN | apply below_drew1) | exact HB.out)))); (case aL => have := LMc15.out; omega); intro v187 w16 ho hb hg hat; rw [← Ny186.out] at ho; have n0_ := Aside0.mk (Kd.R_after (ok := (fun _ => True)) (by (with_reducible repeat (first | apply Kd.R_alloc | apply Kd.R_drewN | apply Kd.R_drew)); exact Kd.R_mono HO_21.out (fun _ hk => ⟨trivial, hk⟩)) hg hat); have n1_ := Aside0.mk (hb); have n2_ := Aside0.mk (ho); clear HO_21; clear HB; clear HO_7; have HO_21 := n0_; have HB := n1_; have HO188 := n2_; clear n0_ n1_ n2_; clear ho hb hg hat))
                  (first | go_roundg k1 | (simp only [add_plain] at *; go_roundg k1))
                  case measure => have := HK1.out; omega
                  case rel => exact ⟨(y186), (wrap64 (x23_1 + 1)), (by first | rfl | (simp; done) | (simp [*]; done)), H', ⟨by have := HK1.out; omega⟩, ⟨by (with_reducible repeat (first | apply Kd.R_alloc | apply Kd.R_drewN | apply Kd.R_drew)); exact HO188.out⟩, ⟨by (with_reducible repeat (first | apply Kd.R_alloc | apply Kd.R_drewN | apply Kd.R_drew)); exact Kd.R_mono HO_21.out (fun _ hk => hk.2)⟩, ⟨by repeat (first | (with_reducible first | exact HB.out | apply below_alloc | apply pw_below_drewN | apply below_drew1) | exact HB.out)⟩⟩
                · rw [if_neg c15] at H
                  exact absurd H (by simp)
              · rw [if_neg c13] at H
                exact absurd H (by simp)
            · rw [if_neg c12] at H
              exact absurd H (by simp)
          · rw [if_neg c11] at H
            have c11b0 : decide (x23_1 < (t174.length : Int)) = false := decide_eq_false c11
            clear c11
            obtain rfl := Option.some.inj H
            go_wp2
            go_ret
            exact ⟨_, by first | rfl | (simp [errW_none, errW_some] <;> rfl) | (simp [*, errW_none, errW_some] <;> rfl), by (with_reducible repeat (first | apply Kd.R_alloc | apply Kd.R_drewN | apply Kd.R_drew)); exact Kd.R_mono HO_7.out (fun _ hk => trivial), by repeat (first | (with_reducible first | exact HB.out | apply below_alloc | apply pw_below_drewN | apply below_drew1) | exact HB.out)⟩
    · rw [if_neg c5] at H
      have c5b0 : decide (0 < a0) = false := decide_eq_false c5
      clear c5
      obtain rfl := Option.some.inj H
      go_enter Try.func76, Try.ntmps76
      go_wp2_with (first | ((with_reducible refine gate_callee (f := 82) rfl ?_); refine goesL_ (some 13) rfl rfl Try.func82 (by kernel_rfl) rfl #[.int .i64 a0, .int .i64 a1] rfl (by (try simp only [List.map_toArray, List.map_cons, List.map_nil]); first | done | rfl | (simp only [List.length_drop, List.length_take]; rfl)) ?_; (with_reducible refine (twid_Table.calls k a0 a1 t174 t175 _ A3.out).mono ?_); rintro e w17 ⟨v176, rfl, ho0, hb⟩; refine ⟨_, rfl, ?_⟩; have n0_ := Aside0.mk (Kd.R_lower ho0 (below_size (by repeat (first | (with_reducible first | exact HB.out | apply below_alloc | apply pw_below_drewN | apply below_drew1) | exact HB.out)))); have n1_ := Aside0.mk (below_step (by repeat (first | (with_reducible first | exact HB.out | apply below_alloc | apply pw_below_drewN | apply below_drew1) | exact HB.out)) hb); clear HB; have HO177 := n0_; have HB := n1_; clear n0_ n1_; (try clear hb); (try clear hb2); (try clear hk); (try clear hi); (try clear ho0)) | (go_at_call 82; (with_reducible refine (twid_Table.calls k a0 a1 t174 t175 _ A3.out).mono ?_); rintro e w17 ⟨v176, rfl, ho0, hb⟩; have n0_ := Aside0.mk (Kd.R_lower ho0 (below_size (by repeat (first | (with_reducible first | exact HB.out | apply below_alloc | apply pw_below_drewN | apply below_drew1) | exact HB.out)))); have n1_ := Aside0.mk (below_step (by repeat (first | (with_reducible first | exact HB.out | apply below_alloc | apply pw_below_drewN | apply below_drew1) | exact HB.out)) hb); clear HB; have HO177 := n0_; have HB := n1_; clear n0_ n1_; (try clear hb); (try clear hb2); (try clear hk); (try clear hi); (try clear ho0)) | ((with_reducible refine gate_dst (N := 16) rfl ?_); refine Kd.R_lit (Kd.int .u64) _ 29 ?hg (N := 16) ?hd (xs := ([] : List Int)) (inner := []) (ok := fun _ => True) (okp := fun _ => True) ?hr ?hp (fun _ hk => hk) trivial (Below.refl _ _) (Nat.le_refl _) (by simp) ?_; (case hd => rfl); (case hg => rfl); (case hr => first | (go_simp; done) | (go_simp; rfl)); (case hp => exact (Reps.none _ _)); intro v179 w18 ho19 hb hg_ hnew_; clear hg_ hnew_; (first | rw [← Ny178.out] at ho19 | (simp only [Int.reduceToNat] at ho19; rw [← Ny178.out] at ho19)); have n0_ := Aside0.mk (Kd.R_elder' (by (with_reducible repeat (first | apply Kd.R_alloc | apply Kd.R_drewN | apply Kd.R_drew)); exact HO177.out) (Kd.R_base ho19) hb); have n1_ := Aside0.mk (Kd.R_lower (Kd.R_new' ho19 (Kd.R_lt (by (with_reducible repeat (first | apply Kd.R_alloc | apply Kd.R_drewN | apply Kd.R_drew)); exact HO177.out))) (below_size (by repeat (first | (with_reducible first | exact HB.out | apply below_alloc | apply pw_below_drewN | apply below_drew1) | exact HB.out)))); have n2_ := Aside0.mk (below_step (by repeat (first | (with_reducible first | exact HB.out | apply below_alloc | apply pw_below_drewN | apply below_drew1) | exact HB.out)) hb); clear HO177; clear HB; have HO177 := n0_; have HO180 := n1_; have HB := n2_; clear n0_ n1_ n2_; clear hb ho19; obtain ⟨Ao21, co21, eo21⟩ := Kd.R_slice HO177.out; subst eo21) | ((with_reducible refine gate_builtin (b := .append) (xs := #[.tmp 16, .tmp 17]) rfl ?_); at_builtin; refine Kd.R_append_rows (Kd.int .u64) (w0 := w) w.heap.size rfl (.tmp 16) (.tmp 17) 22 29 (.int .u64 0) 8 rfl Try.underlying22 info29 rfl (by decide) (by omega) v179 y178 t174 _ _ _ (fun k_ => some k_ ≠ (.slice Ao21 t174.length co21 : Value).ownBlock) (fun _ => False) rfl rfl ?aO ?aR (fun _ _ h => h) (fun _ h => h.elim) ?aF ?aB ?aS ?aL ?_; (case aR => repeat (first | exact (Kd.R_reads' HO177.out).2.2 | (with_reducible refine Kd.C_alloc ?_ _) | (with_reducible refine Kd.C_drewN ?_ _) | (with_reducible refine Kd.C_drew ?_))); (case aB => exact (by repeat (first | (with_reducible first | exact HB.out | apply below_alloc | apply pw_below_drewN | apply below_drew1) | exact HB.out))); (case aF => exact (fun k_ hk => Kd.fresh' (Kd.R_lt (by (with_reducible repeat (first | apply Kd.R_alloc | apply Kd.R_drewN | apply Kd.R_drew)); exact HO177.out)) k_ hk)); (case aO => exact (by (with_reducible repeat (first | apply Kd.R_alloc | apply Kd.R_drewN | apply Kd.R_drew)); exact Kd.R_mono HO180.out (fun _ hk => hk.2))); (case aS => exact (below_size (by repeat (first | (with_reducible first | exact HB.out | apply below_alloc | apply pw_below_drewN | apply below_drew1) | exact HB.out)))); (case aL => have := LMc4.out; omega); intro v182 w20 ho hb hg hat; rw [← Ny181.out] at ho; have n0_ := Aside0.mk (Kd.R_after (ok := (fun _ => True)) (by (with_reducible repeat (first | apply Kd.R_alloc | apply Kd.R_drewN | apply Kd.R_drew)); exact HO177.out) hg hat); have n1_ := Aside0.mk (hb); have n2_ := Aside0.mk (ho); clear HO177; clear HB; clear HO180; have HO177 := n0_; have HB := n1_; have HO183 := n2_; clear n0_ n1_ n2_; clear ho hb hg hat))
      go_ret
      exact ⟨_, by first | rfl | (simp [errW_none, errW_some] <;> rfl) | (simp [*, errW_none, errW_some] <;> rfl), by (with_reducible repeat (first | apply Kd.R_alloc | apply Kd.R_drewN | apply Kd.R_drew)); exact Kd.R_mono HO183.out (fun _ hk => trivial), by repeat (first | (with_reducible first | exact HB.out | apply below_alloc | apply pw_below_drewN | apply below_drew1) | exact HB.out)⟩
  · rw [if_neg c4] at H
    exact absurd H (by simp)

/-! ### kern4_Unit: function 77 -/
def kern4_Unit.f (k : Nat) (a0 : Int) : Option (Int × Int) := (twid_Root.f k 2 a0).bind fun bt189 => (some (bt189.1, bt189.2))
set_option maxHeartbeats 8000000 in
set_option maxRecDepth 100000 in
theorem kern4_Unit.calls (k : Nat) (a0 : Int) (r1 : Int) (r2 : Int) (w : World) (h : kern4_Unit.f k a0 = some (r1, r2)) :
    Calls Try.prog 77 #[.int .i64 a0] w fun e w' => e = .returned (.tuple #[.int .u64 r1, .int .i64 r2]) ∧ Below w.heap.size w w' := by
  have HB := Aside0.mk (Below.refl w.heap.size w)
  have H : ((twid_Root.f k 2 a0).bind fun bt189 => (some (bt189.1, bt189.2))) = some (r1, r2) := h
  clear h
  replace H := Option.bind_eq_some_iff.mp H
  obtain ⟨⟨t189, t190⟩, A20, H⟩ := H
  replace H : (some (t189, t190)) = some (r1, r2) := H
  have A2 := Aside0.mk A20
  clear A20
  simp only [Option.some.injEq, Prod.mk.injEq] at H
  obtain ⟨rfl, rfl⟩ := H
  go_enter Try.func77, Try.ntmps77
  go_wp2_with (first | ((with_reducible refine gate_callee (f := 83) rfl ?_); refine goesL_ (some 5) rfl rfl Try.func83 (by kernel_rfl) rfl #[.int .i64 2, .int .i64 a0] rfl (by (try simp only [List.map_toArray, List.map_cons, List.map_nil]); first | done | rfl | (simp only [List.length_drop, List.length_take]; rfl)) ?_; (with_reducible refine (twid_Root.calls k 2 a0 t189 t190 _ A2.out).mono ?_); rintro e w3 ⟨rfl, hb⟩; refine ⟨_, rfl, ?_⟩; have n0_ := Aside0.mk (below_step (by repeat (first | (with_reducible first | exact HB.out | apply below_alloc | apply pw_below_drewN | apply below_drew1) | exact HB.out)) hb); clear HB; have HB := n0_; clear n0_; (try clear hb); (try clear hb2); (try clear hk); (try clear hi)))
  go_ret2
  exact ⟨by first | rfl | (simp [errW_none, errW_some] <;> rfl) | (simp [*, errW_none, errW_some] <;> rfl), by repeat (first | (with_reducible first | exact HB.out | apply below_alloc | apply pw_below_drewN | apply below_drew1) | exact HB.out)⟩

/-! ### kern4_New: function 72 (by hand) -/
set_option maxHeartbeats 8000000 in
set_option maxRecDepth 100000 in
theorem kern4_New.calls (k : Nat) (a : Int) (k0 k1 t0 t1 : List Int) (ke0 ke1 u0 u1 e0 e1 s es : Int) (w : World) (h0 : decide (a < 0) = false) (h1 : decide (20 < a) = false) (K0 : twid_Table.f k a 0 = some (k0, ke0)) (K1 : twid_Table.f k a 1 = some (k1, ke1)) (H0 : kern4_whole.f k a 0 = some t0) (H1 : kern4_whole.f k a 1 = some t1) (U0 : kern4_Unit.f k 0 = some (u0, e0)) (U1 : kern4_Unit.f k 1 = some (u1, e1)) (HS : twid_Share.f k a = some (s, es)) :
    Calls Try.prog 72 #[.int .i64 a] w fun e w' => ∃ (b b2 : Nat) (v0 v1 x0 x1 x2 : Value), e = .returned (.pointer (some ⟨b, 0, none⟩)) ∧ w.heap.size ≤ b ∧ w.heap.size ≤ b2 ∧ Below w.heap.size w w' ∧ w'.heap[b]? = some (.cells #[.pointer (some ⟨b2, 0, none⟩), v0, v1, .int .u64 u0, .int .u64 u1, .int .u64 s] 92 (0,0)) ∧ w'.heap[b2]? = some (.cells #[x0, x1, x2, .int .i64 a] 104 (0, 0)) ∧
      Kd.R (Kd.int .u64) 29 w' w.heap.size (fun j => j ≠ b) v0 t0 ∧ Kd.R (Kd.int .u64) 29 w' w.heap.size (fun j => j ≠ b) v1 t1 := by
  have A0 := Aside0.mk H0
  have A1 := Aside0.mk H1
  have AS := Aside0.mk HS
  have AU0 := Aside0.mk U0
  have AU1 := Aside0.mk U1
  have AK0 := Aside0.mk K0
  have AK1 := Aside0.mk K1
  clear H0 H1 HS U0 U1 K0 K1
  go_enter Try.func72, Try.ntmps72
  go_wp2_with ((go_at_call 75; (with_reducible refine (kern2_New.calls k a k0 k1 ke0 ke1 s es _ h0 h1 AK0.out AK1.out AS.out).mono ?_); rintro e w1 ⟨x0, x1, rfl, hB1, hX1, _, _⟩; have hB1 := Aside0.mk hB1; have hX1 := Aside0.mk hX1))
  have X := Aside0.mk (show (w1.alloc (.cells #[.pointer (some ⟨w.heap.size, 0, none⟩), .slice none 0 0, .slice none 0 0, .int .u64 0, .int .u64 0, .int .u64 0] 92)).heap[w1.heap.size]? = some (.cells #[.pointer (some ⟨w.heap.size, 0, none⟩), .slice none 0 0, .slice none 0 0, .int .u64 0, .int .u64 0, .int .u64 0] 92 (0, 0)) from Array.getElem?_push_size)
  have hbl := (Below.refl w1.heap.size w1).alloc (Nat.le_refl _) (.cells #[.pointer (some ⟨w.heap.size, 0, none⟩), .slice none 0 0, .slice none 0 0, .int .u64 0, .int .u64 0, .int .u64 0] 92)
  have X2 := Aside0.mk ((hbl.block _ (blk_lt hX1.out)).trans hX1.out)
  have B := Aside0.mk (hB1.out.trans (hbl.mono hB1.out.size))
  have Z := Aside0.mk (show w1.heap.size < (w1.alloc (.cells #[.pointer (some ⟨w.heap.size, 0, none⟩), .slice none 0 0, .slice none 0 0, .int .u64 0, .int .u64 0, .int .u64 0] 92)).heap.size by simp)
  have G := Aside0.mk hB1.out.size
  have hlt := blk_lt hX1.out
  clear hbl hB1 hX1
  obtain ⟨b2, hb2⟩ : ∃ b, b = w.heap.size := ⟨_, rfl⟩
  obtain ⟨b, hb⟩ : ∃ b, b = w1.heap.size := ⟨_, rfl⟩
  rw [← hb] at X Z G ⊢
  generalize w1.alloc (.cells #[.pointer (some ⟨w.heap.size, 0, none⟩), .slice none 0 0, .slice none 0 0, .int .u64 0, .int .u64 0, .int .u64 0] 92) = W1 at X X2 B Z ⊢
  rw [← hb2] at X X2 ⊢
  have HB2 := Aside0.mk hb2
  have HN2 := Aside0.mk (show b2 ≠ b by omega)
  clear hb2 hb hlt
  refine wp_loop_rounds 3 ?_
  rw [rounds_succ]
  go_wp2_with fail
  have c0 := hk_blk_cell X.out 1 _ rfl
  go_region_with ((go_at_call 76; (with_reducible refine (kern4_whole.calls k a 0 t0 _ A0.out).mono ?_); rintro e w2_0 ⟨v_, rfl, hR, hB⟩; obtain ⟨P0, q0, rfl⟩ := Kd.R_slice hR; have n0_ := (hB.block _ Z.out).trans X.out; clear c0; have f0 := hk_blk_frozen n0_ 1; have c0 := hk_blk_cell n0_ 1 _ rfl; have Y := Aside0.mk n0_; clear n0_; have hR := Aside0.mk hR; have hB := Aside0.mk hB))
  clear c0 f0
  have n0_ := Aside0.mk (blk_put Y.out 1 (.slice P0 t0.length q0) rfl)
  have n1_ := Aside0.mk (blk_far ((hB.out.block _ (blk_lt X2.out)).trans X2.out) (p := ⟨b, 1, none⟩) HN2.out (.slice P0 t0.length q0))
  have n2_ := Aside0.mk (below_set (j := 1) (v := (.slice P0 t0.length q0)) (B.out.drew.trans (hB.out.mono B.out.size)) G.out)
  have n3_ := Aside0.mk (show b < (w2_0.setCell ⟨b, 1, none⟩ (.slice P0 t0.length q0)).heap.size by have := hB.out.size; have := Z.out; simp at *; omega)
  have n4_ := Aside0.mk (Kd.R_lower (Kd.R_far (hk_R_out hR.out Z.out) (p := ⟨b, 1, none⟩) (fun k hk => hk) (.slice P0 t0.length q0)) G.out)
  clear X X2 B Z Y hR hB
  have X := n0_
  have X2 := n1_
  have B := n2_
  have Z := n3_
  have R0 := n4_
  clear n0_ n1_ n2_ n3_ n4_
  generalize w2_0.setCell ⟨b, 1, none⟩ (.slice P0 t0.length q0) = V0 at X X2 B Z R0 ⊢
  go_wp2_with ((go_at_call 77; (with_reducible refine (kern4_Unit.calls k 0 u0 e0 _ AU0.out).mono ?_); rintro e w3_0 ⟨rfl, hB⟩; have n0_ := (hB.block _ Z.out).trans X.out; have f0 := hk_blk_frozen n0_ 3; have c0 := hk_blk_cell n0_ 3 _ rfl; have Y := Aside0.mk n0_; clear n0_; have hB := Aside0.mk hB))
  clear c0 f0
  have n0_ := Aside0.mk (blk_put Y.out 3 (.int .u64 u0) rfl)
  have n1_ := Aside0.mk (blk_far ((hB.out.block _ (blk_lt X2.out)).trans X2.out) (p := ⟨b, 3, none⟩) HN2.out (.int .u64 u0))
  have n2_ := Aside0.mk (below_set (j := 3) (v := (.int .u64 u0)) (B.out.trans (hB.out.mono B.out.size)) G.out)
  have n3_ := Aside0.mk (show b < (w3_0.setCell ⟨b, 3, none⟩ (.int .u64 u0)).heap.size by have := hB.out.size; have := Z.out; simp; omega)
  have n4_ := Aside0.mk (Kd.R_far (Kd.R_below R0.out hB.out) (p := ⟨b, 3, none⟩) (fun k hk => hk) (.int .u64 u0))
  clear X X2 B Z Y hB R0
  have X := n0_
  have X2 := n1_
  have B := n2_
  have Z := n3_
  have R0 := n4_
  clear n0_ n1_ n2_ n3_ n4_
  generalize w3_0.setCell ⟨b, 3, none⟩ (.int .u64 u0) = U0_ at X X2 B Z R0 ⊢
  rw [rounds_succ]
  go_wp2_with fail
  have c0 := hk_blk_cell X.out 2 _ rfl
  go_region_with ((go_at_call 76; (with_reducible refine (kern4_whole.calls k a 1 t1 _ A1.out).mono ?_); rintro e w2_1 ⟨v_, rfl, hR, hB⟩; obtain ⟨P1, q1, rfl⟩ := Kd.R_slice hR; have n0_ := (hB.block _ Z.out).trans X.out; clear c0; have f0 := hk_blk_frozen n0_ 2; have c0 := hk_blk_cell n0_ 2 _ rfl; have Y := Aside0.mk n0_; clear n0_; have hR := Aside0.mk hR; have hB := Aside0.mk hB))
  clear c0 f0
  have n0_ := Aside0.mk (blk_put Y.out 2 (.slice P1 t1.length q1) rfl)
  have n1_ := Aside0.mk (blk_far ((hB.out.block _ (blk_lt X2.out)).trans X2.out) (p := ⟨b, 2, none⟩) HN2.out (.slice P1 t1.length q1))
  have n2_ := Aside0.mk (below_set (j := 2) (v := (.slice P1 t1.length q1)) (B.out.drew.trans (hB.out.mono B.out.size)) G.out)
  have n3_ := Aside0.mk (show b < (w2_1.setCell ⟨b, 2, none⟩ (.slice P1 t1.length q1)).heap.size by have := hB.out.size; have := Z.out; simp at *; omega)
  have n4_ := Aside0.mk (Kd.R_lower (Kd.R_far (hk_R_out hR.out Z.out) (p := ⟨b, 2, none⟩) (fun k hk => hk) (.slice P1 t1.length q1)) G.out)
  have n5_ := Aside0.mk (Kd.R_far (Kd.R_below (Kd.R_drew R0.out) hB.out) (p := ⟨b, 2, none⟩) (fun k hk => hk) (.slice P1 t1.length q1))
  clear X X2 B Z Y hR hB R0
  have X := n0_
  have X2 := n1_
  have B := n2_
  have Z := n3_
  have R1 := n4_
  have R0 := n5_
  clear n0_ n1_ n2_ n3_ n4_ n5_
  generalize w2_1.setCell ⟨b, 2, none⟩ (.slice P1 t1.length q1) = V1 at X X2 B Z R1 R0 ⊢
  go_wp2_with ((go_at_call 77; (with_reducible refine (kern4_Unit.calls k 1 u1 e1 _ AU1.out).mono ?_); rintro e w3_1 ⟨rfl, hB⟩; have n0_ := (hB.block _ Z.out).trans X.out; have f0 := hk_blk_frozen n0_ 4; have c0 := hk_blk_cell n0_ 4 _ rfl; have Y := Aside0.mk n0_; clear n0_; have hB := Aside0.mk hB))
  clear c0 f0
  have n0_ := Aside0.mk (blk_put Y.out 4 (.int .u64 u1) rfl)
  have n1_ := Aside0.mk (blk_far ((hB.out.block _ (blk_lt X2.out)).trans X2.out) (p := ⟨b, 4, none⟩) HN2.out (.int .u64 u1))
  have n2_ := Aside0.mk (below_set (j := 4) (v := (.int .u64 u1)) (B.out.trans (hB.out.mono B.out.size)) G.out)
  have n3_ := Aside0.mk (show b < (w3_1.setCell ⟨b, 4, none⟩ (.int .u64 u1)).heap.size by have := hB.out.size; have := Z.out; simp; omega)
  have n4_ := Aside0.mk (Kd.R_far (Kd.R_below R0.out hB.out) (p := ⟨b, 4, none⟩) (fun k hk => hk) (.int .u64 u1))
  have n5_ := Aside0.mk (Kd.R_far (Kd.R_below R1.out hB.out) (p := ⟨b, 4, none⟩) (fun k hk => hk) (.int .u64 u1))
  clear X X2 B Z Y hB R0 R1
  have X := n0_
  have X2 := n1_
  have B := n2_
  have Z := n3_
  have R0 := n4_
  have R1 := n5_
  clear n0_ n1_ n2_ n3_ n4_ n5_
  generalize w3_1.setCell ⟨b, 4, none⟩ (.int .u64 u1) = U1_ at X X2 B Z R0 R1 ⊢
  rw [rounds_succ]
  go_wp2_with ((go_at_call 78; (with_reducible refine (twid_Share.calls k a s es _ AS.out).mono ?_); rintro e w5 ⟨rfl, hB⟩; have n0_ := (hB.block _ Z.out).trans X.out; have f0 := hk_blk_frozen n0_ 5; have c0 := hk_blk_cell n0_ 5 _ rfl; have Y := Aside0.mk n0_; clear n0_; have hB := Aside0.mk hB))
  clear c0 f0
  have n0_ := Aside0.mk (blk_put Y.out 5 (.int .u64 s) rfl)
  have n1_ := Aside0.mk (blk_far ((hB.out.block _ (blk_lt X2.out)).trans X2.out) (p := ⟨b, 5, none⟩) HN2.out (.int .u64 s))
  have n2_ := Aside0.mk (below_set (j := 5) (v := (.int .u64 s)) (B.out.trans (hB.out.mono B.out.size)) G.out)
  have n4_ := Aside0.mk (Kd.R_far (Kd.R_below R0.out hB.out) (p := ⟨b, 5, none⟩) (fun k hk => hk) (.int .u64 s))
  have n5_ := Aside0.mk (Kd.R_far (Kd.R_below R1.out hB.out) (p := ⟨b, 5, none⟩) (fun k hk => hk) (.int .u64 s))
  clear X X2 B Z Y hB R0 R1
  generalize w5.setCell ⟨b, 5, none⟩ (.int .u64 s) = W9 at n0_ n1_ n2_ n4_ n5_ ⊢
  go_ret
  exact ⟨b, b2, _, _, _, _, _, rfl, G.out, by rw [HB2.out]; exact Nat.le_refl _, n2_.out, n0_.out, n1_.out, n4_.out, n5_.out⟩
theorem hk_New4.calls (k : Nat) (a : Nat) (k0 k1 t0 t1 : List Int) (ke0 ke1 u0 u1 e0 e1 s es : Int) (w : World) (ha : a ≤ 20) (K0 : twid_Table.f k a 0 = some (k0, ke0)) (K1 : twid_Table.f k a 1 = some (k1, ke1)) (H0 : kern4_whole.f k a 0 = some t0) (H1 : kern4_whole.f k a 1 = some t1) (U0 : kern4_Unit.f k 0 = some (u0, e0)) (U1 : kern4_Unit.f k 1 = some (u1, e1)) (HS : twid_Share.f k a = some (s, es)) :
    Calls Try.prog 72 #[.int .i64 (a : Int)] w fun e w' => ∃ b, e = .returned (.pointer (some ⟨b, 0, none⟩)) ∧ Below w.heap.size w w' ∧ hk_K4 a t0 t1 u0 u1 s w.heap.size w'.heap.size b w' := by
  refine (kern4_New.calls k a k0 k1 t0 t1 ke0 ke1 u0 u1 e0 e1 s es w (decide_eq_false (by omega)) (decide_eq_false (by omega)) K0 K1 H0 H1 U0 U1 HS).mono ?_
  rintro e w' ⟨b, b2, v0, v1, x0, x1, x2, rfl, hb, hb2, hB, hX, hX2, hR0, hR1⟩
  exact ⟨b, rfl, hB, ⟨hb, blk_lt hX⟩, b2, v0, v1, x0, x1, x2, ⟨hb2, blk_lt hX2⟩, hX, hX2, Kd.R_mono (Kd.R_bound hR0) (fun j hj => hj.2.2.1), Kd.R_mono (Kd.R_bound hR1) (fun j hj => hj.2.2.1)⟩
/-- A kernel's tables. -/
def hk_tabs4 (n k : Nat) (t0 t1 : List Int) (u0 u1 s : Int) : Prop := ∃ (k0 k1 : List Int) (ke0 ke1 e0 e1 es : Int), twid_Table.f n (k : Int) 0 = some (k0, ke0) ∧ twid_Table.f n (k : Int) 1 = some (k1, ke1) ∧ kern4_whole.f n (k : Int) 0 = some t0 ∧ kern4_whole.f n (k : Int) 1 = some t1 ∧ kern4_Unit.f n 0 = some (u0, e0) ∧ kern4_Unit.f n 1 = some (u1, e1) ∧ twid_Share.f n (k : Int) = some (s, es)
theorem hk_New4.at (n a : Nat) (t0 t1 : List Int) (u0 u1 s : Int) (w : World) (ha : a ≤ 20) (h : hk_tabs4 n a t0 t1 u0 u1 s) :
    Calls Try.prog 72 #[.int .i64 (a : Int)] w fun e w' => ∃ b, e = .returned (.pointer (some ⟨b, 0, none⟩)) ∧ Below w.heap.size w w' ∧ hk_K4 a t0 t1 u0 u1 s w.heap.size w'.heap.size b w' := by
  obtain ⟨k0, k1, ke0, ke1, e0, e1, es, h1, h2, h3, h4, h5, h6, h7⟩ := h
  exact hk_New4.calls n a k0 k1 t0 t1 ke0 ke1 u0 u1 e0 e1 s es w ha h1 h2 h3 h4 h5 h6 h7

/-! ### conv_pair: function 69 (by hand) -/
set_option maxHeartbeats 8000000 in
set_option maxRecDepth 100000 in
theorem conv_pair.calls (n k : Nat) (hk : k ≤ 20) (A0 : Option Addr) (c0 : Nat) (l0 : List Int) (A1 : Option Addr) (c1 : Nat) (l1 : List Int) (t0 t1 : List Int) (u0 u1 s : Int) (r0 r1 : List Int) (w : World) (hr0 : Kd.C (Kd.int .u64) w A0 l0.length l0) (hc0 : l0.length ≤ c0) (hr1 : Kd.C (Kd.int .u64) w A1 l1.length l1) (hc1 : l1.length ≤ c1)
    (hn0 : l0.length ≤ 1048576) (hn1 : l1.length ≤ 1048576) (hT : hk_tabs4 n k t0 t1 u0 u1 s) (h0 : hk_run4 n k t0 t1 u0 u1 s 0 false l0 r0) (h1 : hk_run4 n k t0 t1 u0 u1 s 0 false l1 r1) :
    Calls Try.prog 69 #[.slice A0 l0.length c0, .slice A1 l1.length c1, .int .i64 (k : Int)] w fun e w' => ∃ (w2 : World) (b : Nat) (vs vt : Value), e = .returned (.tuple #[.pointer (some ⟨b, 0, none⟩), vs, vt]) ∧ Below w.heap.size w w2 ∧ hk_K4 k t0 t1 u0 u1 s w.heap.size w2.heap.size b w2 ∧ Below w2.heap.size w2 w' ∧
      Kd.R (Kd.int .u64) 29 w' w2.heap.size (fun _ => True) vs r0 ∧ Kd.R (Kd.int .u64) 29 w' w2.heap.size (fun _ => True) vt r1 ∧ (∀ j, vs.ownBlock = some j → ¬ vt.ownBlock = some j) := by
  have HR0 := Aside0.mk hr0
  have HC0 := Aside0.mk hc0
  have HR1 := Aside0.mk hr1
  have HC1 := Aside0.mk hc1
  have HN0 := Aside0.mk hn0
  have HN1 := Aside0.mk hn1
  have HK := Aside0.mk hk
  have HTB := Aside0.mk hT
  have RUN0 := Aside0.mk h0
  have RUN1 := Aside0.mk h1
  clear hr0 hc0 hr1 hc1 hn0 hn1 hk hT h0 h1
  go_enter Try.func69, Try.ntmps69
  go_wp2_with (first | (go_at_call 72; (with_reducible refine (hk_New4.at n k t0 t1 u0 u1 s _ HK.out HTB.out).mono ?_); rintro e w2 ⟨b, rfl, hb2_, hk2⟩; have HB := Aside0.mk hb2_; have K4 := Aside0.mk hk2; have H2 := Aside0.mk (Below.refl w2.heap.size w2); have HRL0 := Aside0.mk (Kd.C_below HR0.out HB.out); have HRL1 := Aside0.mk (Kd.C_below HR1.out HB.out); clear hb2_ hk2 HR0 HR1))
  go_wp2_with (first | (go_at_call 58; (with_reducible refine (hk_clone A0 c0 l0 _ (Kd.C_below HRL0.out H2.out) HC0.out HN0.out).mono ?_); rintro e w3 ⟨vs, rfl, hR_, hB_⟩; clear HRL0; have Rs := Aside0.mk (Kd.R_lower hR_ H2.out.size); have n1_ := Aside0.mk (H2.out.trans (hB_.mono H2.out.size)); clear H2; have H2 := n1_; clear n1_ hR_ hB_) | (go_at_call 58; (with_reducible refine (hk_clone A1 c1 l1 _ (Kd.C_below HRL1.out H2.out) HC1.out HN1.out).mono ?_); rintro e w4 ⟨vt, rfl, hR_, hB_⟩; have AP := Aside0.mk (show ∀ j, vs.ownBlock = some j → ¬ vt.ownBlock = some j from fun j h1 h2 => by (have a1 := Kd.R_lt Rs.out j h1); (have a2 := ((Kd.R_bound hR_).1 j h2).2.1); omega); have Rt := Aside0.mk (Kd.R_lower hR_ H2.out.size); have r_ := Aside0.mk (Kd.R_below Rs.out hB_); clear Rs; have Rs := r_; clear r_; have n1_ := Aside0.mk (H2.out.trans (hB_.mono H2.out.size)); clear H2; have H2 := n1_; clear n1_ hR_ hB_) | (go_at_call 71; (with_reducible refine (hk_Run4.run n k HK.out vs l0 r0 t0 t1 u0 u1 s 0 _ b w2 _ H2.out K4.out Rs.out RUN0.out).mono ?_); rintro e w5 ⟨rfl, hR_, hB_, hK_⟩; clear RUN0; have r_ := Aside0.mk (Kd.R_mono (Kd.R_kept (Kd.R_flat (ok' := fun j => vt.ownBlock = some j) (fun h => h) Rt.out (fun q hq _ => hq)) hK_ (fun j hj hs => AP.out j hs hj)) (fun _ _ => trivial)); clear Rt; have Rt := r_; clear r_ Rs; have Rs := Aside0.mk hR_; clear H2; have H2 := Aside0.mk hB_; clear hR_ hB_ hK_) | (go_at_call 71; (with_reducible refine (hk_Run4.run n k HK.out vt l1 r1 t0 t1 u0 u1 s 0 _ b w2 _ H2.out K4.out Rt.out RUN1.out).mono ?_); rintro e w6 ⟨rfl, hR_, hB_, hK_⟩; have r_ := Aside0.mk (Kd.R_mono (Kd.R_kept (Kd.R_flat (ok' := fun j => vs.ownBlock = some j) (fun h => h) Rs.out (fun q hq _ => hq)) hK_ (fun j hj hs => AP.out j hj hs)) (fun _ _ => trivial)); clear Rs; have Rs := r_; clear r_ Rt; have Rt := Aside0.mk hR_; clear H2; have H2 := Aside0.mk hB_; clear hR_ hB_ hK_))
  go_ret3
  exact ⟨w2, b, vs, vt, rfl, HB.out, K4.out, H2.out, Rs.out, Rt.out, AP.out⟩

end Go.Proofs.Ytkgakohgbbapaaa.PTreeThrough
