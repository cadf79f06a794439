-- Written for this claim by wip/gen/mk.sh, this session's own driver over the kit's print
import Derived.Test.YtjooodbjbidjiaaDoorPConvMulsx0
import Derived.Test.YtjooodbjbidjiaaDoorPConvMulsx1
import Derived.Test.YtjooodbjbidjiaaDoorPConvMulsx5
namespace Go.Proofs.YtjooodbjbidjiaaDoor.PConvMuls
open Go.RowKit Go.Proofs.YtjooodbjbidjiaaDoorW.PrintWords Go.Proofs.YtjooodbjbidjiaaDoorW.PrintLast Go.Proofs.YtjooodbjbidjiaaDoorW.PrintMore
attribute [local go_sem] max2_int min2_int max_two min_two max_three min_three max_four min_four   -- for this text's walks alone
set_option linter.unusedVariables false
set_option linter.unusedSimpArgs false

/-! ### abacistref07_Trim: function 33 -/
mutual
def abacistref07_Trim.l0 : Nat → List Int → Int → Int → Option (List Int)
  | 0, _, _, _ => none
  | k + 1, x0, x3, x4 => if x4 < (x0.length : Int) then (if 0 ≤ x4 then ((abacistref02_Of.f (rd x0 x4)).bind fun t261 => (if t261 = 0 then (abacistref07_Trim.l0 k x0 x3 (wrap64 (x4 + 1))) else (abacistref07_Trim.l0 k x0 (wrap64 (x4 + 1)) (wrap64 (x4 + 1))))) else (none)) else (abacistref07_Trim.l1 k x0 x3 ([] : List Int) 0)
def abacistref07_Trim.l1 : Nat → List Int → Int → List Int → Int → Option (List Int)
  | 0, _, _, _, _ => none
  | k + 1, x0, x3, x5, x6 => if x6 < x3 then (if 0 ≤ x6 then (if x6 < (x0.length : Int) then ((abacistref02_Of.f (rd x0 x6)).bind fun t263 => (if x5.length < 17592186044416 then (abacistref07_Trim.l1 k x0 x3 (x5 ++ [t263]) (wrap64 (x6 + 1))) else (none))) else (none)) else (none)) else (some x5)
end
def abacistref07_Trim.f (k : Nat) (l0 : List Int) : Option (List Int) := abacistref07_Trim.l0 k l0 0 0
theorem abacistref07_Trim.mono_l : ∀ k, (∀ y0 y1 y2, LeO (abacistref07_Trim.l0 k y0 y1 y2) (abacistref07_Trim.l0 (k + 1) y0 y1 y2)) ∧ (∀ y0 y1 y2 y3, LeO (abacistref07_Trim.l1 k y0 y1 y2 y3) (abacistref07_Trim.l1 (k + 1) y0 y1 y2 y3))
  | 0 => ⟨fun _ _ _ r h => by simp [abacistref07_Trim.l0] at h, fun _ _ _ _ r h => by simp [abacistref07_Trim.l1] at h⟩
  | k + 1 => by
    obtain ⟨ih0, ih1⟩ := abacistref07_Trim.mono_l k
    refine ⟨?_, ?_⟩
    · intro y0 y1 y2
      unfold abacistref07_Trim.l0
      repeat' first
      | (with_reducible exact ih0 _ _ _)
      | (with_reducible exact ih1 _ _ _ _)
      | (with_reducible exact LeO.refl _)
      | (with_reducible exact LeO.none _)
      | (with_reducible refine LeO.ite ?_ ?_)
      | (with_reducible refine LeO.bind ?_ (fun _ => ?_))
      | exact ih0 _ _ _
      | exact ih1 _ _ _ _
      | exact LeO.none _
      | refine LeO.ite ?_ ?_
      | refine LeO.bind ?_ (fun _ => ?_)
    · intro y0 y1 y2 y3
      unfold abacistref07_Trim.l1
      repeat' first
      | (with_reducible exact ih0 _ _ _)
      | (with_reducible exact ih1 _ _ _ _)
      | (with_reducible exact LeO.refl _)
      | (with_reducible exact LeO.none _)
      | (with_reducible refine LeO.ite ?_ ?_)
      | (with_reducible refine LeO.bind ?_ (fun _ => ?_))
      | exact ih0 _ _ _
      | exact ih1 _ _ _ _
      | exact LeO.none _
      | refine LeO.ite ?_ ?_
      | refine LeO.bind ?_ (fun _ => ?_)
theorem abacistref07_Trim.mono : ∀ a0 k, LeO (abacistref07_Trim.f k a0) (abacistref07_Trim.f (k + 1) a0) := by
  intro a0 k
  obtain ⟨ih0, ih1⟩ := abacistref07_Trim.mono_l k
  unfold abacistref07_Trim.f
  repeat' first
      | (with_reducible exact ih0 _ _ _)
      | (with_reducible exact ih1 _ _ _ _)
      | (with_reducible exact LeO.refl _)
      | (with_reducible exact LeO.none _)
      | (with_reducible refine LeO.ite ?_ ?_)
      | (with_reducible refine LeO.bind ?_ (fun _ => ?_))
      | exact ih0 _ _ _
      | exact ih1 _ _ _ _
      | exact LeO.none _
      | refine LeO.ite ?_ ?_
      | refine LeO.bind ?_ (fun _ => ?_)
set_option maxHeartbeats 80000000 in
set_option maxRecDepth 100000 in
theorem abacistref07_Trim.calls (k : Nat) (A0 : Option Addr) (c0 : Nat) (l0 : List Int) (r : List Int) (w : World) (hr0 : Kd.C (Kd.int .u64) w A0 l0.length l0) (hc0 : l0.length ≤ c0) (h : abacistref07_Trim.f k l0 = some r) :
    Calls Tryd.prog 33 #[.slice A0 l0.length c0] w fun e w' => ∃ v0_ : Value, e = .returned (v0_) ∧ Kd.R (Kd.int .u64) 28 w' w.heap.size (fun _ => True) v0_ r ∧ Below w.heap.size w w' := by
  have HR0 := Aside0.mk hr0
  have HC0 := Aside0.mk hc0
  clear hr0 hc0
  have HB := Aside0.mk (Below.refl w.heap.size w)
  have H : (abacistref07_Trim.l0 k l0 0 0) = some r := h
  clear h
  have H' := Aside0.mk H
  clear H
  go_enter Tryd.func33, Tryd.ntmps33
  go_wp2
  go_loopg [3, 4] k (fun kq v3 v4 w' => ∃ (x3_1 : Int) (x4_1 : Int), v3 = .int .i64 x3_1 ∧ v4 = .int .i64 x4_1 ∧ Aside0 (abacistref07_Trim.l0 kq l0 x3_1 x4_1 = some r) ∧ Aside0 (kq ≤ k) ∧ Aside0 (Below w.heap.size w w'))
  case atStart => exact ⟨(0), (0), (by first | rfl | (simp; done) | (simp [*]; done)), (by first | rfl | (simp; done) | (simp [*]; done)), H', ⟨Nat.le_refl _⟩, ⟨by repeat (first | (with_reducible first | exact HB.out | apply below_alloc | apply pw_below_drewN | apply below_drew1) | exact HB.out)⟩⟩
  case round =>
    clear H'
    obtain ⟨x3_1, x4_1, rfl, rfl, HA, HK1, HB⟩ := hrel
    cases gk with
    | zero => exact absurd HA.out (by simp [abacistref07_Trim.l0])
    | succ k1 =>
      have H := HA.out
      clear HA
      simp only [abacistref07_Trim.l0] at H
      by_cases c2 : x4_1 < (l0.length : Int)
      · rw [if_pos c2] at H
        have c2b0 : decide (x4_1 < (l0.length : Int)) = true := decide_eq_true c2
        clear c2
        by_cases c3 : 0 ≤ x4_1
        · rw [if_pos c3] at H
          have c3b0 : decide (0 ≤ x4_1) = true := decide_eq_true c3
          clear c3
          replace H := Option.bind_eq_some_iff.mp H
          obtain ⟨t261, A40, H⟩ := H
          replace H : (if t261 = 0 then (abacistref07_Trim.l0 k1 l0 x3_1 (wrap64 (x4_1 + 1))) else (abacistref07_Trim.l0 k1 l0 (wrap64 (x4_1 + 1)) (wrap64 (x4_1 + 1)))) = some r := H
          have A4 := Aside0.mk A40
          clear A40
          by_cases c5 : t261 = 0
          · rw [if_pos c5] at H
            have c5b0 : (t261 == 0) = true := beq_iff_eq.mpr c5
            have c5b1 : (t261 != 0) = false := bne_eq_false_iff_eq.mpr c5
            clear c5
            have H' := Aside0.mk H
            clear H
            have p260 : 0 ≤ (x4_1 : Int) := of_decide_eq_true (by first | (with_reducible assumption) | assumption)
            have q260 : x4_1 < (l0.length : Int) := of_decide_eq_true (by first | (with_reducible assumption) | assumption)
            obtain ⟨ad260, e260, hx260_0⟩ := Kd.at_int HR0.out x4_1 p260 q260
            cases e260
            replace hx260_0 := (HB.out.cell (World.block_lt_of_cell? w _ hx260_0)).trans hx260_0
            replace p260 := eq_true p260
            replace q260 := eq_true q260
            go_wp2_with (first | ((with_reducible refine gate_callee (f := 44) rfl ?_); refine goesL_ (some 17) rfl rfl Tryd.func44 (by kernel_rfl) rfl #[.int .u64 (rd l0 x4_1)] rfl (by (try simp only [List.map_toArray, List.map_cons, List.map_nil]); first | done | rfl | (simp only [List.length_drop, List.length_take]; rfl)) ?_; (with_reducible refine (abacistref02_Of.calls (rd l0 x4_1) t261 _ A4.out).mono ?_); rintro e w' ⟨rfl, ⟨nd, rfl⟩⟩; refine ⟨_, rfl, ?_⟩) | (go_at_call 44; (with_reducible refine (abacistref02_Of.calls (rd l0 x4_1) t261 _ A4.out).mono ?_); rintro e w' ⟨rfl, ⟨nd, rfl⟩⟩))
            (first | go_roundg k1 | (simp only [add_plain] at *; go_roundg k1))
            case measure => have := HK1.out; omega
            case rel => exact ⟨(x3_1), (wrap64 (x4_1 + 1)), (by first | rfl | (simp; done) | (simp [*]; done)), (by first | rfl | (simp; done) | (simp [*]; done)), H', ⟨by have := HK1.out; omega⟩, ⟨by repeat (first | (with_reducible first | exact HB.out | apply below_alloc | apply pw_below_drewN | apply below_drew1) | exact HB.out)⟩⟩
          · rw [if_neg c5] at H
            have c5b0 : (t261 == 0) = false := beq_eq_false_iff_ne.mpr c5
            have c5b1 : (t261 != 0) = true := bne_iff_ne.mpr c5
            have H' := Aside0.mk H
            clear H
            have p260 : 0 ≤ (x4_1 : Int) := of_decide_eq_true (by first | (with_reducible assumption) | assumption)
            have q260 : x4_1 < (l0.length : Int) := of_decide_eq_true (by first | (with_reducible assumption) | assumption)
            obtain ⟨ad260, e260, hx260_0⟩ := Kd.at_int HR0.out x4_1 p260 q260
            cases e260
            replace hx260_0 := (HB.out.cell (World.block_lt_of_cell? w _ hx260_0)).trans hx260_0
            replace p260 := eq_true p260
            replace q260 := eq_true q260
            go_wp2_with (first | ((with_reducible refine gate_callee (f := 44) rfl ?_); refine goesL_ (some 17) rfl rfl Tryd.func44 (by kernel_rfl) rfl #[.int .u64 (rd l0 x4_1)] rfl (by (try simp only [List.map_toArray, List.map_cons, List.map_nil]); first | done | rfl | (simp only [List.length_drop, List.length_take]; rfl)) ?_; (with_reducible refine (abacistref02_Of.calls (rd l0 x4_1) t261 _ A4.out).mono ?_); rintro e w' ⟨rfl, ⟨nd, rfl⟩⟩; refine ⟨_, rfl, ?_⟩) | (go_at_call 44; (with_reducible refine (abacistref02_Of.calls (rd l0 x4_1) t261 _ A4.out).mono ?_); rintro e w' ⟨rfl, ⟨nd, rfl⟩⟩))
            (first | go_roundg k1 | (simp only [add_plain] at *; go_roundg k1))
            case measure => have := HK1.out; omega
            case rel => exact ⟨(wrap64 (x4_1 + 1)), (wrap64 (x4_1 + 1)), (by first | rfl | (simp; done) | (simp [*]; done)), (by first | rfl | (simp; done) | (simp [*]; done)), H', ⟨by have := HK1.out; omega⟩, ⟨by repeat (first | (with_reducible first | exact HB.out | apply below_alloc | apply pw_below_drewN | apply below_drew1) | exact HB.out)⟩⟩
        · rw [if_neg c3] at H
          exact absurd H (by simp)
      · rw [if_neg c2] at H
        have c2b0 : decide (x4_1 < (l0.length : Int)) = false := decide_eq_false c2
        clear c2
        have H' := Aside0.mk H
        clear H
        go_wp2
        go_loopg [5, 6] k1 (fun kq v5 v6 w' => ∃ (x5_2 : List Int) (x6_2 : Int), v6 = .int .i64 x6_2 ∧ Aside0 (abacistref07_Trim.l1 kq l0 x3_1 x5_2 x6_2 = some r) ∧ Aside0 (kq ≤ k1) ∧ Aside0 (Kd.R (Kd.int .u64) 28 w' w.heap.size (fun _ => True) v5 x5_2) ∧ Aside0 (Below w.heap.size w w'))
        case atStart => exact ⟨(([] : List Int)), (0), (by first | rfl | (simp; done) | (simp [*]; done)), H', ⟨Nat.le_refl _⟩, ⟨by first | exact Kd.R_nil _ _ _ _ _ | exact Kd.N_nil _ _ _ _ _ | exact Kd.V_nil _ _ _ _ _ | exact Kd.Q_nil _ _ _ _ _ | exact Kd.S_nil _ _ _ _ _⟩, ⟨by repeat (first | (with_reducible first | exact HB.out | apply below_alloc | apply pw_below_drewN | apply below_drew1) | exact HB.out)⟩⟩
        case round =>
          clear H'
          try clear c2
          try clear c2b0
          try clear p2
          try clear q2
          try clear hx2
          try clear c3
          try clear c3b0
          try clear c4
          try clear c5
          try clear c5b0
          try clear c5b1
          try clear hx260_0
          try clear p260
          try clear q260
          obtain ⟨x5_2, x6_2, rfl, HA, HK2, HO_5, HB⟩ := hrel
          cases gk with
          | zero => exact absurd HA.out (by simp [abacistref07_Trim.l1])
          | succ k2 =>
            have H := HA.out
            clear HA
            simp only [abacistref07_Trim.l1] at H
            by_cases c6 : x6_2 < x3_1
            · rw [if_pos c6] at H
              have c6b0 : decide (x6_2 < x3_1) = true := decide_eq_true c6
              clear c6
              by_cases c7 : 0 ≤ x6_2
              · rw [if_pos c7] at H
                have c7b0 : decide (0 ≤ x6_2) = true := decide_eq_true c7
                clear c7
                by_cases c8 : x6_2 < (l0.length : Int)
                · rw [if_pos c8] at H
                  have c8b0 : decide (x6_2 < (l0.length : Int)) = true := decide_eq_true c8
                  clear c8
                  replace H := Option.bind_eq_some_iff.mp H
                  obtain ⟨t263, A90, H⟩ := H
                  replace H : (if x5_2.length < 17592186044416 then (abacistref07_Trim.l1 k2 l0 x3_1 (x5_2 ++ [t263]) (wrap64 (x6_2 + 1))) else (none)) = some r := H
                  have A9 := Aside0.mk A90
                  clear A90
                  by_cases c10 : x5_2.length < 17592186044416
                  · rw [if_pos c10] at H
                    have LMc10 := Aside0.mk c10
                    clear c10
                    obtain ⟨y264, hy264⟩ : ∃ y_ : List Int, y_ = (x5_2 ++ [t263]) := ⟨_, rfl⟩
                    replace H : (abacistref07_Trim.l1 k2 l0 x3_1 y264 (wrap64 (x6_2 + 1))) = some r := by first | (rw [hy264]; with_reducible exact H) | (have H2_ := (Option.bind_some _ _).symm.trans H; rw [hy264]; with_reducible exact H2_) | (have H2_ := (Option.bind_some _ _).symm.trans H; with_reducible exact H2_) | with_reducible exact H | (rw [hy264]; exact H) | exact H
                    have Ny264 := Aside0.mk hy264
                    clear hy264
                    have H' := Aside0.mk H
                    clear H
                    have p262 : 0 ≤ (x6_2 : Int) := of_decide_eq_true (by first | (with_reducible assumption) | assumption)
                    have q262 : x6_2 < (l0.length : Int) := of_decide_eq_true (by first | (with_reducible assumption) | assumption)
                    obtain ⟨ad262, e262, hx262_0⟩ := Kd.at_int HR0.out x6_2 p262 q262
                    cases e262
                    replace hx262_0 := (HB.out.cell (World.block_lt_of_cell? w _ hx262_0)).trans hx262_0
                    replace p262 := eq_true p262
                    replace q262 := eq_true q262
                    go_wp2_with (first | ((with_reducible refine gate_callee (f := 44) rfl ?_); refine goesL_ (some 31) rfl rfl Tryd.func44 (by kernel_rfl) rfl #[.int .u64 (rd l0 x6_2)] rfl (by (try simp only [List.map_toArray, List.map_cons, List.map_nil]); first | done | rfl | (simp only [List.length_drop, List.length_take]; rfl)) ?_; (with_reducible refine (abacistref02_Of.calls (rd l0 x6_2) t263 _ A9.out).mono ?_); rintro e w' ⟨rfl, ⟨nd, rfl⟩⟩; refine ⟨_, rfl, ?_⟩) | (go_at_call 44; (with_reducible refine (abacistref02_Of.calls (rd l0 x6_2) t263 _ A9.out).mono ?_); rintro e w' ⟨rfl, ⟨nd, rfl⟩⟩) | ((with_reducible refine gate_builtin (b := .append) (xs := #[.tmp 26, .tmp 32]) rfl ?_); at_builtin; refine Kd.R_append (Kd.int .u64) (w0 := w) w.heap.size rfl (.tmp 26) (.tmp 32) 22 28 (.int .u64 0) 8 rfl Tryd.underlying22 info28 rfl (by decide) (by omega) u5 x5_2 t263 [.int .u64 t263] (fun _ => True) (fun _ => False) rfl rfl ?aP (fun _ hk => hk.elim) ?aF ?aO ?aB ?aS ?aL ?_; (case aP => exact rfl); (case aB => exact (by repeat (first | (with_reducible first | exact HB.out | apply below_alloc | apply pw_below_drewN | apply below_drew1) | exact HB.out))); (case aF => exact (fun _ _ => trivial)); (case aO => exact (by (with_reducible repeat (first | apply Kd.R_alloc | apply Kd.R_drewN | apply Kd.R_drew)); exact HO_5.out)); (case aS => exact (below_size (by repeat (first | (with_reducible first | exact HB.out | apply below_alloc | apply pw_below_drewN | apply below_drew1) | exact HB.out)))); (case aL => have := LMc10.out; omega); intro v265 w11 ho hb hg hat; rw [← Ny264.out] at ho; have n0_ := Aside0.mk (hb); have n1_ := Aside0.mk (ho); clear HB; clear HO_5; have HB := n0_; have HO266 := n1_; clear n0_ n1_; clear ho hb hg hat))
                    (first | go_roundg k2 | (simp only [add_plain] at *; go_roundg k2))
                    case measure => have := HK1.out; have := HK2.out; omega
                    case rel => exact ⟨(y264), (wrap64 (x6_2 + 1)), (by first | rfl | (simp; done) | (simp [*]; done)), H', ⟨by have := HK1.out; have := HK2.out; omega⟩, ⟨by (with_reducible repeat (first | apply Kd.R_alloc | apply Kd.R_drewN | apply Kd.R_drew)); exact HO266.out⟩, ⟨by repeat (first | (with_reducible first | exact HB.out | apply below_alloc | apply pw_below_drewN | apply below_drew1) | exact HB.out)⟩⟩
                  · rw [if_neg c10] at H
                    exact absurd H (by simp)
                · rw [if_neg c8] at H
                  exact absurd H (by simp)
              · rw [if_neg c7] at H
                exact absurd H (by simp)
            · rw [if_neg c6] at H
              have c6b0 : decide (x6_2 < x3_1) = false := decide_eq_false c6
              clear c6
              obtain rfl := Option.some.inj H
              go_wp2
              go_ret
              exact ⟨_, by first | rfl | (simp [errW_none, errW_some] <;> rfl) | (simp [*, errW_none, errW_some] <;> rfl), by (with_reducible repeat (first | apply Kd.R_alloc | apply Kd.R_drewN | apply Kd.R_drew)); exact HO_5.out, by repeat (first | (with_reducible first | exact HB.out | apply below_alloc | apply pw_below_drewN | apply below_drew1) | exact HB.out)⟩

/-! ### abacistref07_Mul: function 17 -/
mutual
def abacistref07_Mul.l0 : Nat → List Int → List Int → List Int → Int → Option (List Int)
  | 0, _, _, _, _ => none
  | k + 1, x0, x1, x5, x6 => if x6 < (wrap64 ((x0.length : Int) + (x1.length : Int))) then (abacistref07_Mul.l1 k x0 x1 x5 x6 0 0) else ((abacistref07_Trim.f k x5).bind fun t267 => (some t267))
def abacistref07_Mul.l1 : Nat → List Int → List Int → List Int → Int → Int → Int → Option (List Int)
  | 0, _, _, _, _, _, _ => none
  | k + 1, x0, x1, x5, x6, x7, x8 => if x8 < (x0.length : Int) then (if 0 ≤ x8 then ((abacistref07_get.f x1 (wrap64 (x6 - x8))).bind fun t271 => ((abacistref02_Mul.f k (rd x0 x8) t271).bind fun t272 => ((abacistref02_Add.f x7 t272).bind fun t273 => (abacistref07_Mul.l1 k x0 x1 x5 x6 t273 (wrap64 (x8 + 1)))))) else (none)) else (if x5.length < 17592186044416 then (abacistref07_Mul.l0 k x0 x1 (x5 ++ [x7]) (wrap64 (x6 + 1))) else (none))
end
def abacistref07_Mul.f (k : Nat) (l0 : List Int) (l1 : List Int) : Option (List Int) := abacistref07_Mul.l0 k l0 l1 ([] : List Int) 0
theorem abacistref07_Mul.mono_l : ∀ k, (∀ y0 y1 y2 y3, LeO (abacistref07_Mul.l0 k y0 y1 y2 y3) (abacistref07_Mul.l0 (k + 1) y0 y1 y2 y3)) ∧ (∀ y0 y1 y2 y3 y4 y5, LeO (abacistref07_Mul.l1 k y0 y1 y2 y3 y4 y5) (abacistref07_Mul.l1 (k + 1) y0 y1 y2 y3 y4 y5))
  | 0 => ⟨fun _ _ _ _ r h => by simp [abacistref07_Mul.l0] at h, fun _ _ _ _ _ _ r h => by simp [abacistref07_Mul.l1] at h⟩
  | k + 1 => by
    obtain ⟨ih0, ih1⟩ := abacistref07_Mul.mono_l k
    refine ⟨?_, ?_⟩
    · intro y0 y1 y2 y3
      unfold abacistref07_Mul.l0
      repeat' first
      | (with_reducible exact ih0 _ _ _ _)
      | (with_reducible exact ih1 _ _ _ _ _ _)
      | (with_reducible exact abacistref02_Mul.mono _ _ _)
      | (with_reducible exact abacistref07_Trim.mono _ _)
      | (with_reducible exact LeO.refl _)
      | (with_reducible exact LeO.none _)
      | (with_reducible refine LeO.ite ?_ ?_)
      | (with_reducible refine LeO.bind ?_ (fun _ => ?_))
      | exact ih0 _ _ _ _
      | exact ih1 _ _ _ _ _ _
      | exact abacistref02_Mul.mono _ _ _
      | exact abacistref07_Trim.mono _ _
      | exact LeO.none _
      | refine LeO.ite ?_ ?_
      | refine LeO.bind ?_ (fun _ => ?_)
    · intro y0 y1 y2 y3 y4 y5
      unfold abacistref07_Mul.l1
      repeat' first
      | (with_reducible exact ih0 _ _ _ _)
      | (with_reducible exact ih1 _ _ _ _ _ _)
      | (with_reducible exact abacistref02_Mul.mono _ _ _)
      | (with_reducible exact abacistref07_Trim.mono _ _)
      | (with_reducible exact LeO.refl _)
      | (with_reducible exact LeO.none _)
      | (with_reducible refine LeO.ite ?_ ?_)
      | (with_reducible refine LeO.bind ?_ (fun _ => ?_))
      | exact ih0 _ _ _ _
      | exact ih1 _ _ _ _ _ _
      | exact abacistref02_Mul.mono _ _ _
      | exact abacistref07_Trim.mono _ _
      | exact LeO.none _
      | refine LeO.ite ?_ ?_
      | refine LeO.bind ?_ (fun _ => ?_)
theorem abacistref07_Mul.mono : ∀ a0 a1 k, LeO (abacistref07_Mul.f k a0 a1) (abacistref07_Mul.f (k + 1) a0 a1) := by
  intro a0 a1 k
  obtain ⟨ih0, ih1⟩ := abacistref07_Mul.mono_l k
  unfold abacistref07_Mul.f
  repeat' first
      | (with_reducible exact ih0 _ _ _ _)
      | (with_reducible exact ih1 _ _ _ _ _ _)
      | (with_reducible exact abacistref02_Mul.mono _ _ _)
      | (with_reducible exact abacistref07_Trim.mono _ _)
      | (with_reducible exact LeO.refl _)
      | (with_reducible exact LeO.none _)
      | (with_reducible refine LeO.ite ?_ ?_)
      | (with_reducible refine LeO.bind ?_ (fun _ => ?_))
      | exact ih0 _ _ _ _
      | exact ih1 _ _ _ _ _ _
      | exact abacistref02_Mul.mono _ _ _
      | exact abacistref07_Trim.mono _ _
      | exact LeO.none _
      | refine LeO.ite ?_ ?_
      | refine LeO.bind ?_ (fun _ => ?_)
set_option maxHeartbeats 80000000 in
set_option maxRecDepth 100000 in
theorem abacistref07_Mul.calls (k : Nat) (A0 : Option Addr) (c0 : Nat) (l0 : List Int) (A1 : Option Addr) (c1 : Nat) (l1 : List Int) (r : List Int) (w : World) (hr0 : Kd.C (Kd.int .u64) w A0 l0.length l0) (hc0 : l0.length ≤ c0) (hr1 : Kd.C (Kd.int .u64) w A1 l1.length l1) (hc1 : l1.length ≤ c1) (h : abacistref07_Mul.f k l0 l1 = some r) :
    Calls Tryd.prog 17 #[.slice A0 l0.length c0, .slice A1 l1.length c1] w fun e w' => ∃ v0_ : Value, e = .returned (v0_) ∧ Kd.R (Kd.int .u64) 28 w' w.heap.size (fun _ => True) v0_ r ∧ Below w.heap.size w w' := by
  have HR0 := Aside0.mk hr0
  have HC0 := Aside0.mk hc0
  clear hr0 hc0
  have HR1 := Aside0.mk hr1
  have HC1 := Aside0.mk hc1
  clear hr1 hc1
  have HB := Aside0.mk (Below.refl w.heap.size w)
  have H : (abacistref07_Mul.l0 k l0 l1 ([] : List Int) 0) = some r := h
  clear h
  have H' := Aside0.mk H
  clear H
  go_enter Tryd.func17, Tryd.ntmps17
  go_wp2
  repeat (go_quiet (fail); try go_wp2)
  go_loopg [5, 6] k (fun kq v5 v6 w' => ∃ (x5_1 : List Int) (x6_1 : Int), v6 = .int .i64 x6_1 ∧ Aside0 (abacistref07_Mul.l0 kq l0 l1 x5_1 x6_1 = some r) ∧ Aside0 (kq ≤ k) ∧ Aside0 (Kd.R (Kd.int .u64) 28 w' w.heap.size (fun _ => True) v5 x5_1) ∧ Aside0 (Below w.heap.size w w'))
  case atStart => exact ⟨(([] : List Int)), (0), (by first | rfl | (simp; done) | (simp [*]; done)), H', ⟨Nat.le_refl _⟩, ⟨by first | exact Kd.R_nil _ _ _ _ _ | exact Kd.N_nil _ _ _ _ _ | exact Kd.V_nil _ _ _ _ _ | exact Kd.Q_nil _ _ _ _ _ | exact Kd.S_nil _ _ _ _ _⟩, ⟨by repeat (first | (with_reducible first | exact HB.out | apply below_alloc | apply pw_below_drewN | apply below_drew1) | exact HB.out)⟩⟩
  case round =>
    clear H'
    try clear c1
    try clear p2
    obtain ⟨x5_1, x6_1, rfl, HA, HK1, HO_5, HB⟩ := hrel
    cases gk with
    | zero => exact absurd HA.out (by simp [abacistref07_Mul.l0])
    | succ k1 =>
      have H := HA.out
      clear HA
      simp only [abacistref07_Mul.l0] at H
      by_cases c3 : x6_1 < (wrap64 ((l0.length : Int) + (l1.length : Int)))
      · rw [if_pos c3] at H
        have c3b0 : decide (x6_1 < (wrap64 ((l0.length : Int) + (l1.length : Int)))) = true := decide_eq_true c3
        clear c3
        have H' := Aside0.mk H
        clear H
        go_wp2
        repeat (go_quiet (fail); try go_wp2)
        go_loopg [7, 8] k1 (fun kq v7 v8 w' => ∃ (x7_2 : Int) (x8_2 : Int), v7 = .int .u64 x7_2 ∧ v8 = .int .i64 x8_2 ∧ Aside0 (abacistref07_Mul.l1 kq l0 l1 x5_1 x6_1 x7_2 x8_2 = some r) ∧ Aside0 (kq ≤ k1) ∧ Aside0 (Kd.R (Kd.int .u64) 28 w' w.heap.size (fun _ => True) u5 x5_1) ∧ Aside0 (Below w.heap.size w w'))
        case atStart => exact ⟨(0), (0), (by first | rfl | (simp; done) | (simp [*]; done)), (by first | rfl | (simp; done) | (simp [*]; done)), H', ⟨Nat.le_refl _⟩, ⟨by (with_reducible repeat (first | apply Kd.R_alloc | apply Kd.R_drewN | apply Kd.R_drew)); exact HO_5.out⟩, ⟨by repeat (first | (with_reducible first | exact HB.out | apply below_alloc | apply pw_below_drewN | apply below_drew1) | exact HB.out)⟩⟩
        case round =>
          clear H'
          try clear c1
          try clear p2
          try clear c3
          try clear c3b0
          try clear p2
          obtain ⟨x7_2, x8_2, rfl, rfl, HA, HK2, HO_5, HB⟩ := hrel
          cases gk with
          | zero => exact absurd HA.out (by simp [abacistref07_Mul.l1])
          | succ k2 =>
            have H := HA.out
            clear HA
            simp only [abacistref07_Mul.l1] at H
            by_cases c4 : x8_2 < (l0.length : Int)
            · rw [if_pos c4] at H
              have c4b0 : decide (x8_2 < (l0.length : Int)) = true := decide_eq_true c4
              clear c4
              by_cases c5 : 0 ≤ x8_2
              · rw [if_pos c5] at H
                have c5b0 : decide (0 ≤ x8_2) = true := decide_eq_true c5
                clear c5
                replace H := Option.bind_eq_some_iff.mp H
                obtain ⟨t271, A60, H⟩ := H
                replace H : ((abacistref02_Mul.f k2 (rd l0 x8_2) t271).bind fun t272 => ((abacistref02_Add.f x7_2 t272).bind fun t273 => (abacistref07_Mul.l1 k2 l0 l1 x5_1 x6_1 t273 (wrap64 (x8_2 + 1))))) = some r := H
                have A6 := Aside0.mk A60
                clear A60
                replace H := Option.bind_eq_some_iff.mp H
                obtain ⟨t272, A70, H⟩ := H
                replace H : ((abacistref02_Add.f x7_2 t272).bind fun t273 => (abacistref07_Mul.l1 k2 l0 l1 x5_1 x6_1 t273 (wrap64 (x8_2 + 1)))) = some r := H
                have A7 := Aside0.mk A70
                clear A70
                replace H := Option.bind_eq_some_iff.mp H
                obtain ⟨t273, A80, H⟩ := H
                replace H : (abacistref07_Mul.l1 k2 l0 l1 x5_1 x6_1 t273 (wrap64 (x8_2 + 1))) = some r := H
                have A8 := Aside0.mk A80
                clear A80
                have H' := Aside0.mk H
                clear H
                have p270 : 0 ≤ (x8_2 : Int) := of_decide_eq_true (by first | (with_reducible assumption) | assumption)
                have q270 : x8_2 < (l0.length : Int) := of_decide_eq_true (by first | (with_reducible assumption) | assumption)
                obtain ⟨ad270, e270, hx270_0⟩ := Kd.at_int HR0.out x8_2 p270 q270
                cases e270
                replace hx270_0 := (HB.out.cell (World.block_lt_of_cell? w _ hx270_0)).trans hx270_0
                replace p270 := eq_true p270
                replace q270 := eq_true q270
                go_wp2_with (first | (go_at_call 32; (with_reducible refine (abacistref07_get.calls _ _ l1 (wrap64 (x6_1 - x8_2)) t271 _ ?side1 ?side2 A6.out).mono ?_); (case side1 => repeat (first | exact (Kd.C_below HR1.out HB.out) | (with_reducible refine Kd.C_alloc ?_ _) | (with_reducible refine Kd.C_drewN ?_ _) | (with_reducible refine Kd.C_drew ?_))); (case side2 => exact HC1.out); rintro e w' ⟨rfl, ⟨nd, rfl⟩⟩; (try first | exact ⟨rfl, _, World.drewN_drewN _ _ _⟩ | exact ⟨rfl, _, Eq.trans (World.drewN_drewN _ _ _) (congrArg (World.drewN _) (Nat.add_assoc _ _ _))⟩)) | (go_at_call 30; (with_reducible refine (abacistref02_Mul.calls k2 (rd l0 x8_2) t271 t272 _ A7.out).mono ?_); rintro e w' ⟨rfl, ⟨nd, rfl⟩⟩; (try first | exact ⟨rfl, _, World.drewN_drewN _ _ _⟩ | exact ⟨rfl, _, Eq.trans (World.drewN_drewN _ _ _) (congrArg (World.drewN _) (Nat.add_assoc _ _ _))⟩)) | (go_at_call 29; (with_reducible refine (abacistref02_Add.calls x7_2 t272 t273 _ A8.out).mono ?_); rintro e w' ⟨rfl, ⟨nd, rfl⟩⟩; (try first | exact ⟨rfl, _, World.drewN_drewN _ _ _⟩ | exact ⟨rfl, _, Eq.trans (World.drewN_drewN _ _ _) (congrArg (World.drewN _) (Nat.add_assoc _ _ _))⟩)))
                repeat (go_quiet (first | (go_at_call 32; (with_reducible refine (abacistref07_get.calls _ _ l1 (wrap64 (x6_1 - x8_2)) t271 _ ?side1 ?side2 A6.out).mono ?_); (case side1 => repeat (first | exact (Kd.C_below HR1.out HB.out) | (with_reducible refine Kd.C_alloc ?_ _) | (with_reducible refine Kd.C_drewN ?_ _) | (with_reducible refine Kd.C_drew ?_))); (case side2 => exact HC1.out); rintro e w' ⟨rfl, ⟨nd, rfl⟩⟩; (try first | exact ⟨rfl, _, World.drewN_drewN _ _ _⟩ | exact ⟨rfl, _, Eq.trans (World.drewN_drewN _ _ _) (congrArg (World.drewN _) (Nat.add_assoc _ _ _))⟩)) | (go_at_call 30; (with_reducible refine (abacistref02_Mul.calls k2 (rd l0 x8_2) t271 t272 _ A7.out).mono ?_); rintro e w' ⟨rfl, ⟨nd, rfl⟩⟩; (try first | exact ⟨rfl, _, World.drewN_drewN _ _ _⟩ | exact ⟨rfl, _, Eq.trans (World.drewN_drewN _ _ _) (congrArg (World.drewN _) (Nat.add_assoc _ _ _))⟩)) | (go_at_call 29; (with_reducible refine (abacistref02_Add.calls x7_2 t272 t273 _ A8.out).mono ?_); rintro e w' ⟨rfl, ⟨nd, rfl⟩⟩; (try first | exact ⟨rfl, _, World.drewN_drewN _ _ _⟩ | exact ⟨rfl, _, Eq.trans (World.drewN_drewN _ _ _) (congrArg (World.drewN _) (Nat.add_assoc _ _ _))⟩))); try go_wp2_with (first | (go_at_call 32; (with_reducible refine (abacistref07_get.calls _ _ l1 (wrap64 (x6_1 - x8_2)) t271 _ ?side1 ?side2 A6.out).mono ?_); (case side1 => repeat (first | exact (Kd.C_below HR1.out HB.out) | (with_reducible refine Kd.C_alloc ?_ _) | (with_reducible refine Kd.C_drewN ?_ _) | (with_reducible refine Kd.C_drew ?_))); (case side2 => exact HC1.out); rintro e w' ⟨rfl, ⟨nd, rfl⟩⟩; (try first | exact ⟨rfl, _, World.drewN_drewN _ _ _⟩ | exact ⟨rfl, _, Eq.trans (World.drewN_drewN _ _ _) (congrArg (World.drewN _) (Nat.add_assoc _ _ _))⟩)) | (go_at_call 30; (with_reducible refine (abacistref02_Mul.calls k2 (rd l0 x8_2) t271 t272 _ A7.out).mono ?_); rintro e w' ⟨rfl, ⟨nd, rfl⟩⟩; (try first | exact ⟨rfl, _, World.drewN_drewN _ _ _⟩ | exact ⟨rfl, _, Eq.trans (World.drewN_drewN _ _ _) (congrArg (World.drewN _) (Nat.add_assoc _ _ _))⟩)) | (go_at_call 29; (with_reducible refine (abacistref02_Add.calls x7_2 t272 t273 _ A8.out).mono ?_); rintro e w' ⟨rfl, ⟨nd, rfl⟩⟩; (try first | exact ⟨rfl, _, World.drewN_drewN _ _ _⟩ | exact ⟨rfl, _, Eq.trans (World.drewN_drewN _ _ _) (congrArg (World.drewN _) (Nat.add_assoc _ _ _))⟩))))
                (first | go_roundg k2 | (simp only [add_plain] at *; go_roundg k2))
                case measure => have := HK1.out; have := HK2.out; omega
                case rel => exact ⟨(t273), (wrap64 (x8_2 + 1)), (by first | rfl | (simp; done) | (simp [*]; done)), (by first | rfl | (simp; done) | (simp [*]; done)), H', ⟨by have := HK1.out; have := HK2.out; omega⟩, ⟨by (with_reducible repeat (first | apply Kd.R_alloc | apply Kd.R_drewN | apply Kd.R_drew)); exact HO_5.out⟩, ⟨by repeat (first | (with_reducible first | exact HB.out | apply below_alloc | apply pw_below_drewN | apply below_drew1) | exact HB.out)⟩⟩
              · rw [if_neg c5] at H
                exact absurd H (by simp)
            · rw [if_neg c4] at H
              have c4b0 : decide (x8_2 < (l0.length : Int)) = false := decide_eq_false c4
              clear c4
              by_cases c9 : x5_1.length < 17592186044416
              · rw [if_pos c9] at H
                have LMc9 := Aside0.mk c9
                clear c9
                obtain ⟨y274, hy274⟩ : ∃ y_ : List Int, y_ = (x5_1 ++ [x7_2]) := ⟨_, rfl⟩
                replace H : (abacistref07_Mul.l0 k2 l0 l1 y274 (wrap64 (x6_1 + 1))) = some r := by first | (rw [hy274]; with_reducible exact H) | (have H2_ := (Option.bind_some _ _).symm.trans H; rw [hy274]; with_reducible exact H2_) | (have H2_ := (Option.bind_some _ _).symm.trans H; with_reducible exact H2_) | with_reducible exact H | (rw [hy274]; exact H) | exact H
                have Ny274 := Aside0.mk hy274
                clear hy274
                have H' := Aside0.mk H
                clear H
                go_wp2_with (first | ((with_reducible refine gate_builtin (b := .append) (xs := #[.tmp 36, .tmp 38]) rfl ?_); at_builtin; refine Kd.R_append (Kd.int .u64) (w0 := w) w.heap.size rfl (.tmp 36) (.tmp 38) 22 28 (.int .u64 0) 8 rfl Tryd.underlying22 info28 rfl (by decide) (by omega) u5 x5_1 x7_2 [.int .u64 x7_2] (fun _ => True) (fun _ => False) rfl rfl ?aP (fun _ hk => hk.elim) ?aF ?aO ?aB ?aS ?aL ?_; (case aP => exact rfl); (case aB => exact (by repeat (first | (with_reducible first | exact HB.out | apply below_alloc | apply pw_below_drewN | apply below_drew1) | exact HB.out))); (case aF => exact (fun _ _ => trivial)); (case aO => exact (by (with_reducible repeat (first | apply Kd.R_alloc | apply Kd.R_drewN | apply Kd.R_drew)); exact HO_5.out)); (case aS => exact (below_size (by repeat (first | (with_reducible first | exact HB.out | apply below_alloc | apply pw_below_drewN | apply below_drew1) | exact HB.out)))); (case aL => have := LMc9.out; omega); intro v275 w10 ho hb hg hat; rw [← Ny274.out] at ho; have n0_ := Aside0.mk (hb); have n1_ := Aside0.mk (ho); clear HB; clear HO_5; have HB := n0_; have HO276 := n1_; clear n0_ n1_; clear ho hb hg hat))
                repeat (go_quiet (first | ((with_reducible refine gate_builtin (b := .append) (xs := #[.tmp 36, .tmp 38]) rfl ?_); at_builtin; refine Kd.R_append (Kd.int .u64) (w0 := w) w.heap.size rfl (.tmp 36) (.tmp 38) 22 28 (.int .u64 0) 8 rfl Tryd.underlying22 info28 rfl (by decide) (by omega) u5 x5_1 x7_2 [.int .u64 x7_2] (fun _ => True) (fun _ => False) rfl rfl ?aP (fun _ hk => hk.elim) ?aF ?aO ?aB ?aS ?aL ?_; (case aP => exact rfl); (case aB => exact (by repeat (first | (with_reducible first | exact HB.out | apply below_alloc | apply pw_below_drewN | apply below_drew1) | exact HB.out))); (case aF => exact (fun _ _ => trivial)); (case aO => exact (by (with_reducible repeat (first | apply Kd.R_alloc | apply Kd.R_drewN | apply Kd.R_drew)); exact HO_5.out)); (case aS => exact (below_size (by repeat (first | (with_reducible first | exact HB.out | apply below_alloc | apply pw_below_drewN | apply below_drew1) | exact HB.out)))); (case aL => have := LMc9.out; omega); intro v275 w10 ho hb hg hat; rw [← Ny274.out] at ho; have n0_ := Aside0.mk (hb); have n1_ := Aside0.mk (ho); clear HB; clear HO_5; have HB := n0_; have HO276 := n1_; clear n0_ n1_; clear ho hb hg hat)); try go_wp2_with (first | ((with_reducible refine gate_builtin (b := .append) (xs := #[.tmp 36, .tmp 38]) rfl ?_); at_builtin; refine Kd.R_append (Kd.int .u64) (w0 := w) w.heap.size rfl (.tmp 36) (.tmp 38) 22 28 (.int .u64 0) 8 rfl Tryd.underlying22 info28 rfl (by decide) (by omega) u5 x5_1 x7_2 [.int .u64 x7_2] (fun _ => True) (fun _ => False) rfl rfl ?aP (fun _ hk => hk.elim) ?aF ?aO ?aB ?aS ?aL ?_; (case aP => exact rfl); (case aB => exact (by repeat (first | (with_reducible first | exact HB.out | apply below_alloc | apply pw_below_drewN | apply below_drew1) | exact HB.out))); (case aF => exact (fun _ _ => trivial)); (case aO => exact (by (with_reducible repeat (first | apply Kd.R_alloc | apply Kd.R_drewN | apply Kd.R_drew)); exact HO_5.out)); (case aS => exact (below_size (by repeat (first | (with_reducible first | exact HB.out | apply below_alloc | apply pw_below_drewN | apply below_drew1) | exact HB.out)))); (case aL => have := LMc9.out; omega); intro v275 w10 ho hb hg hat; rw [← Ny274.out] at ho; have n0_ := Aside0.mk (hb); have n1_ := Aside0.mk (ho); clear HB; clear HO_5; have HB := n0_; have HO276 := n1_; clear n0_ n1_; clear ho hb hg hat)))
                (first | go_roundg k2 | (simp only [add_plain] at *; go_roundg k2))
                case measure => have := HK1.out; have := HK2.out; omega
                case rel => exact ⟨(y274), (wrap64 (x6_1 + 1)), (by first | rfl | (simp; done) | (simp [*]; done)), H', ⟨by have := HK1.out; have := HK2.out; omega⟩, ⟨by (with_reducible repeat (first | apply Kd.R_alloc | apply Kd.R_drewN | apply Kd.R_drew)); exact HO276.out⟩, ⟨by repeat (first | (with_reducible first | exact HB.out | apply below_alloc | apply pw_below_drewN | apply below_drew1) | exact HB.out)⟩⟩
              · rw [if_neg c9] at H
                exact absurd H (by simp)
      · rw [if_neg c3] at H
        have c3b0 : decide (x6_1 < (wrap64 ((l0.length : Int) + (l1.length : Int)))) = false := decide_eq_false c3
        clear c3
        replace H := Option.bind_eq_some_iff.mp H
        obtain ⟨t267, A110, H⟩ := H
        replace H : (some t267) = some r := H
        have A11 := Aside0.mk A110
        clear A110
        obtain rfl := Option.some.inj H
        obtain ⟨Ao12, co12, eo12⟩ := Kd.R_slice HO_5.out
        subst eo12
        go_wp2_with (first | (go_at_call 33; (with_reducible refine (abacistref07_Trim.calls k1 _ _ x5_1 t267 _ ?side1 ?side2 A11.out).mono ?_); (case side1 => repeat (first | exact (Kd.R_reads' HO_5.out).2.2 | (with_reducible refine Kd.C_alloc ?_ _) | (with_reducible refine Kd.C_drewN ?_ _) | (with_reducible refine Kd.C_drew ?_))); (case side2 => exact (Kd.R_reads' HO_5.out).2.1); rintro e w13 ⟨v268, rfl, ho0, hb⟩; have n0_ := Aside0.mk (Kd.R_elder' (by (with_reducible repeat (first | apply Kd.R_alloc | apply Kd.R_drewN | apply Kd.R_drew)); exact HO_5.out) (Kd.R_base ho0) hb); have n1_ := Aside0.mk (Kd.R_lower (Kd.R_new' ho0 (Kd.R_lt (by (with_reducible repeat (first | apply Kd.R_alloc | apply Kd.R_drewN | apply Kd.R_drew)); exact HO_5.out))) (below_size (by repeat (first | (with_reducible first | exact HB.out | apply below_alloc | apply pw_below_drewN | apply below_drew1) | exact HB.out)))); have n2_ := Aside0.mk (below_step (by repeat (first | (with_reducible first | exact HB.out | apply below_alloc | apply pw_below_drewN | apply below_drew1) | exact HB.out)) hb); clear HO_5; clear HB; have HO_5 := n0_; have HO269 := n1_; have HB := n2_; clear n0_ n1_ n2_; (try clear hb); (try clear hb2); (try clear hk); (try clear hi); (try clear ho0)))
        repeat (go_quiet (first | (go_at_call 33; (with_reducible refine (abacistref07_Trim.calls k1 _ _ x5_1 t267 _ ?side1 ?side2 A11.out).mono ?_); (case side1 => repeat (first | exact (Kd.R_reads' HO_5.out).2.2 | (with_reducible refine Kd.C_alloc ?_ _) | (with_reducible refine Kd.C_drewN ?_ _) | (with_reducible refine Kd.C_drew ?_))); (case side2 => exact (Kd.R_reads' HO_5.out).2.1); rintro e w13 ⟨v268, rfl, ho0, hb⟩; have n0_ := Aside0.mk (Kd.R_elder' (by (with_reducible repeat (first | apply Kd.R_alloc | apply Kd.R_drewN | apply Kd.R_drew)); exact HO_5.out) (Kd.R_base ho0) hb); have n1_ := Aside0.mk (Kd.R_lower (Kd.R_new' ho0 (Kd.R_lt (by (with_reducible repeat (first | apply Kd.R_alloc | apply Kd.R_drewN | apply Kd.R_drew)); exact HO_5.out))) (below_size (by repeat (first | (with_reducible first | exact HB.out | apply below_alloc | apply pw_below_drewN | apply below_drew1) | exact HB.out)))); have n2_ := Aside0.mk (below_step (by repeat (first | (with_reducible first | exact HB.out | apply below_alloc | apply pw_below_drewN | apply below_drew1) | exact HB.out)) hb); clear HO_5; clear HB; have HO_5 := n0_; have HO269 := n1_; have HB := n2_; clear n0_ n1_ n2_; (try clear hb); (try clear hb2); (try clear hk); (try clear hi); (try clear ho0))); try go_wp2_with (first | (go_at_call 33; (with_reducible refine (abacistref07_Trim.calls k1 _ _ x5_1 t267 _ ?side1 ?side2 A11.out).mono ?_); (case side1 => repeat (first | exact (Kd.R_reads' HO_5.out).2.2 | (with_reducible refine Kd.C_alloc ?_ _) | (with_reducible refine Kd.C_drewN ?_ _) | (with_reducible refine Kd.C_drew ?_))); (case side2 => exact (Kd.R_reads' HO_5.out).2.1); rintro e w13 ⟨v268, rfl, ho0, hb⟩; have n0_ := Aside0.mk (Kd.R_elder' (by (with_reducible repeat (first | apply Kd.R_alloc | apply Kd.R_drewN | apply Kd.R_drew)); exact HO_5.out) (Kd.R_base ho0) hb); have n1_ := Aside0.mk (Kd.R_lower (Kd.R_new' ho0 (Kd.R_lt (by (with_reducible repeat (first | apply Kd.R_alloc | apply Kd.R_drewN | apply Kd.R_drew)); exact HO_5.out))) (below_size (by repeat (first | (with_reducible first | exact HB.out | apply below_alloc | apply pw_below_drewN | apply below_drew1) | exact HB.out)))); have n2_ := Aside0.mk (below_step (by repeat (first | (with_reducible first | exact HB.out | apply below_alloc | apply pw_below_drewN | apply below_drew1) | exact HB.out)) hb); clear HO_5; clear HB; have HO_5 := n0_; have HO269 := n1_; have HB := n2_; clear n0_ n1_ n2_; (try clear hb); (try clear hb2); (try clear hk); (try clear hi); (try clear ho0))))
        go_ret
        exact ⟨_, by first | rfl | (simp [errW_none, errW_some] <;> rfl) | (simp [*, errW_none, errW_some] <;> rfl), by (with_reducible repeat (first | apply Kd.R_alloc | apply Kd.R_drewN | apply Kd.R_drew)); exact Kd.R_mono HO269.out (fun _ hk => trivial), by repeat (first | (with_reducible first | exact HB.out | apply below_alloc | apply pw_below_drewN | apply below_drew1) | exact HB.out)⟩

/-! ### poly_Degree: function 47 -/
def poly_Degree.l0 : Nat → List Int → Int → Option (Int)
  | 0, _, _ => none
  | k + 1, x0, x3 => if x3 ≥ 0 then (if 0 ≤ x3 then (if x3 < (x0.length : Int) then ((gold_Of.f (rd x0 x3)).bind fun t278 => (if t278 = 0 then (poly_Degree.l0 k x0 (wrap64 (x3 - 1))) else (some x3))) else (none)) else (none)) else (some x3)
def poly_Degree.f (k : Nat) (l0 : List Int) : Option (Int) := poly_Degree.l0 k l0 (wrap64 ((l0.length : Int) - 1))
theorem poly_Degree.mono_l : ∀ k, (∀ y0 y1, LeO (poly_Degree.l0 k y0 y1) (poly_Degree.l0 (k + 1) y0 y1))
  | 0 => fun _ _ r h => by simp [poly_Degree.l0] at h
  | k + 1 => by
    have ih0 := poly_Degree.mono_l k
    · intro y0 y1
      unfold poly_Degree.l0
      repeat' first
      | (with_reducible exact ih0 _ _)
      | (with_reducible exact LeO.refl _)
      | (with_reducible exact LeO.none _)
      | (with_reducible refine LeO.ite ?_ ?_)
      | (with_reducible refine LeO.bind ?_ (fun _ => ?_))
      | exact ih0 _ _
      | exact LeO.none _
      | refine LeO.ite ?_ ?_
      | refine LeO.bind ?_ (fun _ => ?_)
theorem poly_Degree.mono : ∀ a0 k, LeO (poly_Degree.f k a0) (poly_Degree.f (k + 1) a0) := by
  intro a0 k
  have ih0 := poly_Degree.mono_l k
  unfold poly_Degree.f
  repeat' first
      | (with_reducible exact ih0 _ _)
      | (with_reducible exact LeO.refl _)
      | (with_reducible exact LeO.none _)
      | (with_reducible refine LeO.ite ?_ ?_)
      | (with_reducible refine LeO.bind ?_ (fun _ => ?_))
      | exact ih0 _ _
      | exact LeO.none _
      | refine LeO.ite ?_ ?_
      | refine LeO.bind ?_ (fun _ => ?_)
set_option maxHeartbeats 8000000 in
set_option maxRecDepth 100000 in
theorem poly_Degree.calls (k : Nat) (A0 : Option Addr) (c0 : Nat) (l0 : List Int) (r : Int) (w : World) (hr0 : Kd.C (Kd.int .u64) w A0 l0.length l0) (hc0 : l0.length ≤ c0) (h : poly_Degree.f k l0 = some r) :
    Calls Tryd.prog 47 #[.slice A0 l0.length c0] w fun e w' => e = .returned (.int .i64 r) ∧ Drawn0 w w' := by
  have HR0 := Aside0.mk hr0
  have HC0 := Aside0.mk hc0
  clear hr0 hc0
  have H : (poly_Degree.l0 k l0 (wrap64 ((l0.length : Int) - 1))) = some r := h
  clear h
  have H' := Aside0.mk H
  clear H
  go_enter Tryd.func47, Tryd.ntmps47
  go_wp2
  go_loopg [3] k (fun kq v3 w' => ∃ (x3_1 : Int), v3 = .int .i64 x3_1 ∧ Aside0 (poly_Degree.l0 kq l0 x3_1 = some r) ∧ Aside0 (kq ≤ k) ∧ Drawn0 w w')
  case atStart => exact ⟨(wrap64 ((l0.length : Int) - 1)), (by first | rfl | (simp; done) | (simp [*]; done)), H', ⟨Nat.le_refl _⟩, by repeat (first | exact Drawn0.refl _ | apply Drawn0.step)⟩
  case round =>
    clear H'
    obtain ⟨x3_1, rfl, HA, HK1, ⟨m1, rfl⟩⟩ := hrel
    cases gk with
    | zero => exact absurd HA.out (by simp [poly_Degree.l0])
    | succ k1 =>
      have H := HA.out
      clear HA
      simp only [poly_Degree.l0] at H
      by_cases c2 : x3_1 ≥ 0
      · rw [if_pos c2] at H
        have c2b0 : decide (0 ≤ x3_1) = true := decide_eq_true c2
        clear c2
        by_cases c3 : 0 ≤ x3_1
        · rw [if_pos c3] at H
          have c3b0 : decide (0 ≤ x3_1) = true := decide_eq_true c3
          clear c3
          by_cases c4 : x3_1 < (l0.length : Int)
          · rw [if_pos c4] at H
            have c4b0 : decide (x3_1 < (l0.length : Int)) = true := decide_eq_true c4
            clear c4
            replace H := Option.bind_eq_some_iff.mp H
            obtain ⟨t278, A50, H⟩ := H
            replace H : (if t278 = 0 then (poly_Degree.l0 k1 l0 (wrap64 (x3_1 - 1))) else (some x3_1)) = some r := H
            have A5 := Aside0.mk A50
            clear A50
            by_cases c6 : t278 = 0
            · rw [if_pos c6] at H
              have c6b0 : (t278 == 0) = true := beq_iff_eq.mpr c6
              have c6b1 : (t278 != 0) = false := bne_eq_false_iff_eq.mpr c6
              clear c6
              have H' := Aside0.mk H
              clear H
              have p277 : 0 ≤ (x3_1 : Int) := of_decide_eq_true (by first | (with_reducible assumption) | assumption)
              have q277 : x3_1 < (l0.length : Int) := of_decide_eq_true (by first | (with_reducible assumption) | assumption)
              obtain ⟨ad277, e277, hx277_0⟩ := Kd.at_int HR0.out x3_1 p277 q277
              cases e277
              replace p277 := eq_true p277
              replace q277 := eq_true q277
              go_wp2_with (first | (go_at_call 48; (with_reducible refine (gold_Of.calls (rd l0 x3_1) t278 _ A5.out).mono ?_); rintro e w' ⟨rfl, ⟨nd, rfl⟩⟩))
              (first | go_roundg k1 | (simp only [add_plain] at *; go_roundg k1))
              case measure => have := HK1.out; omega
              case rel => exact ⟨(wrap64 (x3_1 - 1)), (by first | rfl | (simp; done) | (simp [*]; done)), H', ⟨by have := HK1.out; omega⟩, by repeat (first | exact Drawn0.refl _ | apply Drawn0.step)⟩
            · rw [if_neg c6] at H
              have c6b0 : (t278 == 0) = false := beq_eq_false_iff_ne.mpr c6
              have c6b1 : (t278 != 0) = true := bne_iff_ne.mpr c6
              obtain rfl := Option.some.inj H
              have p277 : 0 ≤ (x3_1 : Int) := of_decide_eq_true (by first | (with_reducible assumption) | assumption)
              have q277 : x3_1 < (l0.length : Int) := of_decide_eq_true (by first | (with_reducible assumption) | assumption)
              obtain ⟨ad277, e277, hx277_0⟩ := Kd.at_int HR0.out x3_1 p277 q277
              cases e277
              replace p277 := eq_true p277
              replace q277 := eq_true q277
              go_wp2_with (first | (go_at_call 48; (with_reducible refine (gold_Of.calls (rd l0 x3_1) t278 _ A5.out).mono ?_); rintro e w' ⟨rfl, ⟨nd, rfl⟩⟩))
              go_ret
              exact ⟨by first | rfl | (simp; done) | (simp [*]; done), by repeat (first | exact Drawn0.refl _ | apply Drawn0.step)⟩
          · rw [if_neg c4] at H
            exact absurd H (by simp)
        · rw [if_neg c3] at H
          exact absurd H (by simp)
      · rw [if_neg c2] at H
        have c2b0 : decide (0 ≤ x3_1) = false := decide_eq_false c2
        clear c2
        obtain rfl := Option.some.inj H
        go_wp2
        go_ret
        exact ⟨by first | rfl | (simp; done) | (simp [*]; done), by repeat (first | exact Drawn0.refl _ | apply Drawn0.step)⟩

/-! ### poly_Trim: function 35 -/
def poly_Trim.l0 : Nat → List Int → List Int → Int → Int → Option (List Int)
  | 0, _, _, _, _ => none
  | k + 1, x3, x10, x11, x12 => if x12 < x11 then (if 0 ≤ x12 then (if x12 < (x10.length : Int) then ((gold_Of.f (rd x10 x12)).bind fun t282 => (if x3.length < 17592186044416 then (poly_Trim.l0 k (x3 ++ [t282]) x10 x11 (wrap64 (x12 + 1))) else (none))) else (none)) else (none)) else (some x3)
def poly_Trim.f (k : Nat) (l0 : List Int) : Option (List Int) := (poly_Degree.f k l0).bind fun t279 => (if 0 ≤ (wrap64 (t279 + 1)) then (if (wrap64 (t279 + 1)) ≤ (l0.length : Int) then (poly_Trim.l0 k ([] : List Int) (l0.take ((wrap64 (t279 + 1)) : Int).toNat) ((l0.take ((wrap64 (t279 + 1)) : Int).toNat).length : Int) 0) else (none)) else (none))
theorem poly_Trim.mono_l : ∀ k, (∀ y0 y1 y2 y3, LeO (poly_Trim.l0 k y0 y1 y2 y3) (poly_Trim.l0 (k + 1) y0 y1 y2 y3))
  | 0 => fun _ _ _ _ r h => by simp [poly_Trim.l0] at h
  | k + 1 => by
    have ih0 := poly_Trim.mono_l k
    · intro y0 y1 y2 y3
      unfold poly_Trim.l0
      repeat' first
      | (with_reducible exact ih0 _ _ _ _)
      | (with_reducible exact poly_Degree.mono _ _)
      | (with_reducible exact LeO.refl _)
      | (with_reducible exact LeO.none _)
      | (with_reducible refine LeO.ite ?_ ?_)
      | (with_reducible refine LeO.bind ?_ (fun _ => ?_))
      | exact ih0 _ _ _ _
      | exact poly_Degree.mono _ _
      | exact LeO.none _
      | refine LeO.ite ?_ ?_
      | refine LeO.bind ?_ (fun _ => ?_)
theorem poly_Trim.mono : ∀ a0 k, LeO (poly_Trim.f k a0) (poly_Trim.f (k + 1) a0) := by
  intro a0 k
  have ih0 := poly_Trim.mono_l k
  unfold poly_Trim.f
  repeat' first
      | (with_reducible exact ih0 _ _ _ _)
      | (with_reducible exact poly_Degree.mono _ _)
      | (with_reducible exact LeO.refl _)
      | (with_reducible exact LeO.none _)
      | (with_reducible refine LeO.ite ?_ ?_)
      | (with_reducible refine LeO.bind ?_ (fun _ => ?_))
      | exact ih0 _ _ _ _
      | exact poly_Degree.mono _ _
      | exact LeO.none _
      | refine LeO.ite ?_ ?_
      | refine LeO.bind ?_ (fun _ => ?_)
set_option maxHeartbeats 80000000 in
set_option maxRecDepth 100000 in
theorem poly_Trim.calls (k : Nat) (A0 : Option Addr) (c0 : Nat) (l0 : List Int) (r : List Int) (w : World) (hr0 : Kd.C (Kd.int .u64) w A0 l0.length l0) (hc0 : l0.length ≤ c0) (h : poly_Trim.f k l0 = some r) :
    Calls Tryd.prog 35 #[.slice A0 l0.length c0] w fun e w' => ∃ v0_ : Value, e = .returned (v0_) ∧ Kd.R (Kd.int .u64) 28 w' w.heap.size (fun _ => True) v0_ r ∧ Below w.heap.size w w' := by
  have HR0 := Aside0.mk hr0
  have HC0 := Aside0.mk hc0
  clear hr0 hc0
  have HB := Aside0.mk (Below.refl w.heap.size w)
  have H : ((poly_Degree.f k l0).bind fun t279 => (if 0 ≤ (wrap64 (t279 + 1)) then (if (wrap64 (t279 + 1)) ≤ (l0.length : Int) then (poly_Trim.l0 k ([] : List Int) (l0.take ((wrap64 (t279 + 1)) : Int).toNat) ((l0.take ((wrap64 (t279 + 1)) : Int).toNat).length : Int) 0) else (none)) else (none))) = some r := h
  clear h
  replace H := Option.bind_eq_some_iff.mp H
  obtain ⟨t279, A20, H⟩ := H
  replace H : (if 0 ≤ (wrap64 (t279 + 1)) then (if (wrap64 (t279 + 1)) ≤ (l0.length : Int) then (poly_Trim.l0 k ([] : List Int) (l0.take ((wrap64 (t279 + 1)) : Int).toNat) ((l0.take ((wrap64 (t279 + 1)) : Int).toNat).length : Int) 0) else (none)) else (none)) = some r := H
  have A2 := Aside0.mk A20
  clear A20
  obtain ⟨ji3, hji3⟩ : ∃ j_ : Int, (wrap64 (t279 + 1)) = j_ := ⟨_, rfl⟩
  (try (have hji3w : (IntKind.i64.wrap (t279 + 1)) = ji3 := by simpa only [i64_w] using hji3))
  replace H : (if 0 ≤ (ji3) then (if (ji3) ≤ (l0.length : Int) then (poly_Trim.l0 k ([] : List Int) (l0.take ((ji3) : Int).toNat) ((l0.take ((ji3) : Int).toNat).length : Int) 0) else (none)) else (none)) = some r := by first | (rw [hji3] at H; exact H) | (simp only [hji3] at H ⊢; exact H)
  (try rw [hji3] at A2)
  have hji3w : (IntKind.i64.wrap (t279 + 1)) = ji3 := (i64_w _).trans hji3
  by_cases c4 : 0 ≤ (ji3)
  · rw [if_pos c4] at H
    have c4b0 := eq_true c4
    have c4b1 : decide (0 ≤ (ji3)) = true := decide_eq_true c4
    clear c4
    by_cases c5 : (ji3) ≤ (l0.length : Int)
    · rw [if_pos c5] at H
      have c5b0 := eq_true c5
      have LTc5 := Aside0.mk (show (((l0.take ((ji3) : Int).toNat).length : Int) = max (ji3) 0) by rw [List.length_take]; omega)
      (try (have LDc5 := Aside0.mk (show ∀ lo_ : Nat, (((l0.take ((ji3) : Int).toNat).drop lo_).length : Int) = ((((ji3) : Int).toNat - lo_ : Nat) : Int) from fun lo_ => by rw [List.length_drop, List.length_take]; omega)))
      have c5b1 : decide ((ji3) ≤ (l0.length : Int)) = true := decide_eq_true c5
      clear c5
      have H' := Aside0.mk H
      clear H
      go_enter Tryd.func35, Tryd.ntmps35
      go_wp2_with (first | ((with_reducible refine gate_callee (f := 47) rfl ?_); refine goesL_ (some 8) rfl rfl Tryd.func47 (by kernel_rfl) rfl #[.slice A0 l0.length c0] rfl (by (try simp only [List.map_toArray, List.map_cons, List.map_nil]); first | done | rfl | (simp only [List.length_drop, List.length_take]; rfl)) ?_; (with_reducible refine (poly_Degree.calls k _ _ l0 t279 _ ?side1 ?side2 A2.out).mono ?_); (case side1 => repeat (first | exact HR0.out | (with_reducible refine Kd.C_alloc ?_ _) | (with_reducible refine Kd.C_drewN ?_ _) | (with_reducible refine Kd.C_drew ?_))); (case side2 => exact HC0.out); rintro e w' ⟨rfl, ⟨nd, rfl⟩⟩; refine ⟨_, rfl, ?_⟩; obtain ⟨i06, hi06, _, hsz6, _⟩ := info_parts info28; obtain ⟨hcut6, hA6, hC6⟩ := print_take_of (P := Tryd.prog) (Value.int .u64) 0 22 28 .i64 Tryd.underlying22 hi06 hsz6 A0 c0 l0 (ji3) (of_decide_eq_true (by first | (with_reducible assumption) | assumption)) (of_decide_eq_true (by first | (with_reducible assumption) | assumption)) HC0.out; have HR280 := Aside0.mk (Kd.C_of_reads (h1 := fun _ => rfl) (hA6 _ (Kd.reads_of_C HR0.out))); have HC280 := Aside0.mk hC6; clear hA6 hC6 hi06 hsz6) | (go_at_call 47; (with_reducible refine (poly_Degree.calls k _ _ l0 t279 _ ?side1 ?side2 A2.out).mono ?_); (case side1 => repeat (first | exact HR0.out | (with_reducible refine Kd.C_alloc ?_ _) | (with_reducible refine Kd.C_drewN ?_ _) | (with_reducible refine Kd.C_drew ?_))); (case side2 => exact HC0.out); rintro e w' ⟨rfl, ⟨nd, rfl⟩⟩; obtain ⟨i06, hi06, _, hsz6, _⟩ := info_parts info28; obtain ⟨hcut6, hA6, hC6⟩ := print_take_of (P := Tryd.prog) (Value.int .u64) 0 22 28 .i64 Tryd.underlying22 hi06 hsz6 A0 c0 l0 (ji3) (of_decide_eq_true (by first | (with_reducible assumption) | assumption)) (of_decide_eq_true (by first | (with_reducible assumption) | assumption)) HC0.out; have HR280 := Aside0.mk (Kd.C_of_reads (h1 := fun _ => rfl) (hA6 _ (Kd.reads_of_C HR0.out))); have HC280 := Aside0.mk hC6; clear hA6 hC6 hi06 hsz6))
      go_loopg [3, 12] k (fun kq v3 v12 w' => ∃ (x3_1 : List Int) (x12_1 : Int), v12 = .int .i64 x12_1 ∧ Aside0 (poly_Trim.l0 kq x3_1 (l0.take ((ji3) : Int).toNat) ((l0.take ((ji3) : Int).toNat).length : Int) x12_1 = some r) ∧ Aside0 (kq ≤ k) ∧ Aside0 (Kd.R (Kd.int .u64) 28 w' w.heap.size (fun _ => True) v3 x3_1) ∧ Aside0 (Below w.heap.size w w'))
      case atStart => exact ⟨(([] : List Int)), (0), (by first | rfl | (simp; done) | (simp [*]; done)), H', ⟨Nat.le_refl _⟩, ⟨by first | exact Kd.R_nil _ _ _ _ _ | exact Kd.N_nil _ _ _ _ _ | exact Kd.V_nil _ _ _ _ _ | exact Kd.Q_nil _ _ _ _ _ | exact Kd.S_nil _ _ _ _ _⟩, ⟨by repeat (first | (with_reducible first | exact HB.out | apply below_alloc | apply pw_below_drewN | apply below_drew1) | exact HB.out)⟩⟩
      case round =>
        clear H'
        try clear p2
        try clear c3
        try clear c4
        try clear c4b0
        try clear c4b1
        try clear c5
        try clear c5b0
        try clear c5b1
        try clear p6
        obtain ⟨x3_1, x12_1, rfl, HA, HK1, HO_3, HB⟩ := hrel
        cases gk with
        | zero => exact absurd HA.out (by simp [poly_Trim.l0])
        | succ k1 =>
          have H := HA.out
          clear HA
          simp only [poly_Trim.l0] at H
          by_cases c7 : x12_1 < ((l0.take ((ji3) : Int).toNat).length : Int)
          · rw [if_pos c7] at H
            have c7b0 : decide (x12_1 < ((l0.take ((ji3) : Int).toNat).length : Int)) = true := decide_eq_true c7
            (try (have c7b0_0 := c7b0; rw [LTc5.out] at c7b0_0))
            (try (have c7b0_0p := eq_true (of_decide_eq_true c7b0_0)))
            (try (have c7b0_1 := c7b0; rw [LDc5.out] at c7b0_1))
            (try (have c7b0_1p := eq_true (of_decide_eq_true c7b0_1)))
            clear c7
            by_cases c8 : 0 ≤ x12_1
            · rw [if_pos c8] at H
              have c8b0 : decide (0 ≤ x12_1) = true := decide_eq_true c8
              clear c8
              by_cases c9 : x12_1 < ((l0.take ((ji3) : Int).toNat).length : Int)
              · rw [if_pos c9] at H
                have c9b0 : decide (x12_1 < ((l0.take ((ji3) : Int).toNat).length : Int)) = true := decide_eq_true c9
                (try (have c9b0_0 := c9b0; rw [LTc5.out] at c9b0_0))
                (try (have c9b0_0p := eq_true (of_decide_eq_true c9b0_0)))
                (try (have c9b0_1 := c9b0; rw [LDc5.out] at c9b0_1))
                (try (have c9b0_1p := eq_true (of_decide_eq_true c9b0_1)))
                clear c9
                replace H := Option.bind_eq_some_iff.mp H
                obtain ⟨t282, A100, H⟩ := H
                replace H : (if x3_1.length < 17592186044416 then (poly_Trim.l0 k1 (x3_1 ++ [t282]) (l0.take ((ji3) : Int).toNat) ((l0.take ((ji3) : Int).toNat).length : Int) (wrap64 (x12_1 + 1))) else (none)) = some r := H
                have A10 := Aside0.mk A100
                clear A100
                by_cases c11 : x3_1.length < 17592186044416
                · rw [if_pos c11] at H
                  have LMc11 := Aside0.mk c11
                  clear c11
                  obtain ⟨y283, hy283⟩ : ∃ y_ : List Int, y_ = (x3_1 ++ [t282]) := ⟨_, rfl⟩
                  replace H : (poly_Trim.l0 k1 y283 (l0.take ((ji3) : Int).toNat) ((l0.take ((ji3) : Int).toNat).length : Int) (wrap64 (x12_1 + 1))) = some r := by first | (rw [hy283]; with_reducible exact H) | (have H2_ := (Option.bind_some _ _).symm.trans H; rw [hy283]; with_reducible exact H2_) | (have H2_ := (Option.bind_some _ _).symm.trans H; with_reducible exact H2_) | with_reducible exact H | (rw [hy283]; exact H) | exact H
                  have Ny283 := Aside0.mk hy283
                  clear hy283
                  have H' := Aside0.mk H
                  clear H
                  have p281 : 0 ≤ (x12_1 : Int) := of_decide_eq_true (by first | (with_reducible assumption) | assumption)
                  have q281 : x12_1 < ((l0.take ((ji3) : Int).toNat).length : Int) := of_decide_eq_true (by first | (with_reducible assumption) | assumption)
                  obtain ⟨ad281, e281, hx281_0⟩ := Kd.at_int HR280.out x12_1 p281 q281
                  cases e281
                  replace hx281_0 := (HB.out.cell (World.block_lt_of_cell? w _ hx281_0)).trans hx281_0
                  replace p281 := eq_true p281
                  replace q281 := eq_true q281
                  go_wp2_with (first | ((with_reducible refine gate_callee (f := 48) rfl ?_); refine goesL_ (some 18) rfl rfl Tryd.func48 (by kernel_rfl) rfl #[.int .u64 (rd (l0.take ((ji3) : Int).toNat) x12_1)] rfl (by (try simp only [List.map_toArray, List.map_cons, List.map_nil]); first | done | (simp only [hji3]; rfl) | rfl | (simp only [List.length_drop, List.length_take]; rfl)) ?_; (with_reducible refine (gold_Of.calls (rd (l0.take ((ji3) : Int).toNat) x12_1) t282 _ A10.out).mono ?_); rintro e w' ⟨rfl, ⟨nd, rfl⟩⟩; refine ⟨_, rfl, ?_⟩) | (go_at_call 48; (with_reducible refine (gold_Of.calls (rd (l0.take ((ji3) : Int).toNat) x12_1) t282 _ A10.out).mono ?_); rintro e w' ⟨rfl, ⟨nd, rfl⟩⟩) | ((with_reducible refine gate_builtin (b := .append) (xs := #[.tmp 16, .tmp 19]) rfl ?_); at_builtin; refine Kd.R_append (Kd.int .u64) (w0 := w) w.heap.size rfl (.tmp 16) (.tmp 19) 22 28 (.int .u64 0) 8 rfl Tryd.underlying22 info28 rfl (by decide) (by omega) u3 x3_1 t282 [.int .u64 t282] (fun _ => True) (fun _ => False) rfl rfl ?aP (fun _ hk => hk.elim) ?aF ?aO ?aB ?aS ?aL ?_; (case aP => exact rfl); (case aB => exact (by repeat (first | (with_reducible first | exact HB.out | apply below_alloc | apply pw_below_drewN | apply below_drew1) | exact HB.out))); (case aF => exact (fun _ _ => trivial)); (case aO => exact (by (with_reducible repeat (first | apply Kd.R_alloc | apply Kd.R_drewN | apply Kd.R_drew)); exact HO_3.out)); (case aS => exact (below_size (by repeat (first | (with_reducible first | exact HB.out | apply below_alloc | apply pw_below_drewN | apply below_drew1) | exact HB.out)))); (case aL => have := LMc11.out; omega); intro v284 w12 ho hb hg hat; rw [← Ny283.out] at ho; have n0_ := Aside0.mk (hb); have n1_ := Aside0.mk (ho); clear HB; clear HO_3; have HB := n0_; have HO285 := n1_; clear n0_ n1_; clear ho hb hg hat))
                  (first | go_roundg k1 | (simp only [add_plain] at *; go_roundg k1))
                  case measure => have := HK1.out; omega
                  case rel => exact ⟨(y283), (wrap64 (x12_1 + 1)), (by first | rfl | (simp; done) | (simp [*]; done)), H', ⟨by have := HK1.out; omega⟩, ⟨by (with_reducible repeat (first | apply Kd.R_alloc | apply Kd.R_drewN | apply Kd.R_drew)); exact HO285.out⟩, ⟨by repeat (first | (with_reducible first | exact HB.out | apply below_alloc | apply pw_below_drewN | apply below_drew1) | exact HB.out)⟩⟩
                · rw [if_neg c11] at H
                  exact absurd H (by simp)
              · rw [if_neg c9] at H
                exact absurd H (by simp)
            · rw [if_neg c8] at H
              exact absurd H (by simp)
          · rw [if_neg c7] at H
            have c7b0 : decide (x12_1 < ((l0.take ((ji3) : Int).toNat).length : Int)) = false := decide_eq_false c7
            (try (have c7b0_0 := c7b0; rw [LTc5.out] at c7b0_0))
            (try (have c7b0_1 := c7b0; rw [LDc5.out] at c7b0_1))
            clear c7
            obtain rfl := Option.some.inj H
            go_wp2
            go_ret
            exact ⟨_, by first | rfl | (simp [errW_none, errW_some] <;> rfl) | (simp only [← hji3]; first | rfl | (simp [errW_none, errW_some] <;> rfl)) | (simp [*, errW_none, errW_some] <;> rfl), by (with_reducible repeat (first | apply Kd.R_alloc | apply Kd.R_drewN | apply Kd.R_drew)); exact HO_3.out, by repeat (first | (with_reducible first | exact HB.out | apply below_alloc | apply pw_below_drewN | apply below_drew1) | exact HB.out)⟩
    · rw [if_neg c5] at H
      exact absurd H (by simp)
  · rw [if_neg c4] at H
    exact absurd H (by simp)

/-! ### conv_exponent: function 45 -/
def conv_exponent.l0 : Nat → Int → Int → Option (Int)
  | 0, _, _ => none
  | k + 1, x0, x3 => if 0 ≤ (IntKind.u64.wrap (x3)) then (if (shl .i64 1 (IntKind.u64.wrap (x3))) < x0 then (conv_exponent.l0 k x0 (wrap64 (x3 + 1))) else (some x3)) else (none)
def conv_exponent.f (k : Nat) (a0 : Int) : Option (Int) := conv_exponent.l0 k a0 0
theorem conv_exponent.mono_l : ∀ k, (∀ y0 y1, LeO (conv_exponent.l0 k y0 y1) (conv_exponent.l0 (k + 1) y0 y1))
  | 0 => fun _ _ r h => by simp [conv_exponent.l0] at h
  | k + 1 => by
    have ih0 := conv_exponent.mono_l k
    · intro y0 y1
      unfold conv_exponent.l0
      repeat' first
      | (with_reducible exact ih0 _ _)
      | (with_reducible exact LeO.refl _)
      | (with_reducible exact LeO.none _)
      | (with_reducible refine LeO.ite ?_ ?_)
      | (with_reducible refine LeO.bind ?_ (fun _ => ?_))
      | exact ih0 _ _
      | exact LeO.none _
      | refine LeO.ite ?_ ?_
      | refine LeO.bind ?_ (fun _ => ?_)
theorem conv_exponent.mono : ∀ a0 k, LeO (conv_exponent.f k a0) (conv_exponent.f (k + 1) a0) := by
  intro a0 k
  have ih0 := conv_exponent.mono_l k
  unfold conv_exponent.f
  repeat' first
      | (with_reducible exact ih0 _ _)
      | (with_reducible exact LeO.refl _)
      | (with_reducible exact LeO.none _)
      | (with_reducible refine LeO.ite ?_ ?_)
      | (with_reducible refine LeO.bind ?_ (fun _ => ?_))
      | exact ih0 _ _
      | exact LeO.none _
      | refine LeO.ite ?_ ?_
      | refine LeO.bind ?_ (fun _ => ?_)
set_option maxHeartbeats 8000000 in
set_option maxRecDepth 100000 in
theorem conv_exponent.calls (k : Nat) (a0 : Int) (r : Int) (w : World) (h : conv_exponent.f k a0 = some r) :
    Calls Tryd.prog 45 #[.int .i64 a0] w fun e w' => e = .returned (.int .i64 r) ∧ Drawn0 w w' := by
  have H : (conv_exponent.l0 k a0 0) = some r := h
  clear h
  have H' := Aside0.mk H
  clear H
  go_enter Tryd.func45, Tryd.ntmps45
  go_wp2
  go_loopg [3] k (fun kq v3 w' => ∃ (x3_1 : Int), v3 = .int .i64 x3_1 ∧ Aside0 (conv_exponent.l0 kq a0 x3_1 = some r) ∧ Aside0 (kq ≤ k) ∧ Drawn0 w w')
  case atStart => exact ⟨(0), (by first | rfl | (simp; done) | (simp [*]; done)), H', ⟨Nat.le_refl _⟩, by repeat (first | exact Drawn0.refl _ | apply Drawn0.step)⟩
  case round =>
    clear H'
    obtain ⟨x3_1, rfl, HA, HK1, ⟨m1, rfl⟩⟩ := hrel
    cases gk with
    | zero => exact absurd HA.out (by simp [conv_exponent.l0])
    | succ k1 =>
      have H := HA.out
      clear HA
      simp only [conv_exponent.l0] at H
      obtain ⟨ji2, hji2⟩ : ∃ j_ : Int, (IntKind.u64.wrap (x3_1)) = j_ := ⟨_, rfl⟩
      replace H : (if 0 ≤ (ji2) then (if (shl .i64 1 (ji2)) < a0 then (conv_exponent.l0 k1 a0 (wrap64 (x3_1 + 1))) else (some x3_1)) else (none)) = some r := by first | (rw [hji2] at H; exact H) | (simp only [hji2] at H ⊢; exact H)
      by_cases c3 : 0 ≤ (ji2)
      · rw [if_pos c3] at H
        have c3b0 := eq_true c3
        have c3b1 : decide (0 ≤ (ji2)) = true := decide_eq_true c3
        clear c3
        obtain ⟨ji4, hji4⟩ : ∃ j_ : Int, (shl .i64 1 (ji2)) = j_ := ⟨_, rfl⟩
        replace H : (if (ji4) < a0 then (conv_exponent.l0 k1 a0 (wrap64 (x3_1 + 1))) else (some x3_1)) = some r := by first | (rw [hji4] at H; exact H) | (simp only [hji4] at H ⊢; exact H)
        have hji4_ : (IntKind.i64.wrap (1 * 2 ^ min (ji2).toNat 64)) = ji4 := hji4
        have hji4z : (ji2) ≤ 64 → (IntKind.i64.wrap (1 * 2 ^ (ji2).toNat)) = ji4 := shl_small hji4
        have hji4u : (IntKind.i64.wrap (2 ^ min (ji2).toNat 64)) = ji4 := by have h_ := hji4_; rw [Int.one_mul] at h_; exact h_
        have hji4v : (ji2) ≤ 64 → (IntKind.i64.wrap (2 ^ (ji2).toNat)) = ji4 := fun hle_ => by have h_ := hji4z hle_; rw [Int.one_mul] at h_; exact h_
        have hji4y : (wrap64 (1 * 2 ^ min (ji2).toNat 64)) = ji4 := (i64_w _).symm.trans hji4_
        have hji4x : (ji2) ≤ 64 → (wrap64 (1 * 2 ^ (ji2).toNat)) = ji4 := fun h_ => (i64_w _).symm.trans (hji4z h_)
        by_cases c5 : (ji4) < a0
        · rw [if_pos c5] at H
          have c5b0 : decide ((ji4) < a0) = true := decide_eq_true c5
          clear c5
          have H' := Aside0.mk H
          clear H
          go_wp2
          (first | go_roundg k1 | (simp only [add_plain] at *; go_roundg k1))
          case measure => have := HK1.out; omega
          case rel => exact ⟨(wrap64 (x3_1 + 1)), (by first | rfl | (simp; done) | (simp [*]; done)), H', ⟨by have := HK1.out; omega⟩, by repeat (first | exact Drawn0.refl _ | apply Drawn0.step)⟩
        · rw [if_neg c5] at H
          have c5b0 : decide ((ji4) < a0) = false := decide_eq_false c5
          clear c5
          obtain rfl := Option.some.inj H
          go_wp2
          go_ret
          exact ⟨by first | rfl | (simp; done) | (simp only [← hji2, ← hji4] <;> (first | rfl | simp)) | (simp [*]; done), by repeat (first | exact Drawn0.refl _ | apply Drawn0.step)⟩
      · rw [if_neg c3] at H
        exact absurd H (by simp)

/-! ### conv_padded: function 46 (by hand) -/
def conv_padded.f (n : Nat) (p : List Int) (k : Int) : Option (List Int) := if 0 ≤ k ∧ k ≤ 20 ∧ 0 < p.length ∧ p.length ≤ 2 ^ k.toNat then some (p ++ List.replicate (2 ^ k.toNat - p.length) 0) else none
theorem conv_padded.mono : ∀ a0 a1 k, LeO (conv_padded.f k a0 a1) (conv_padded.f (k + 1) a0 a1) := fun _ _ _ => LeO.refl _
set_option maxHeartbeats 800000 in
set_option maxRecDepth 100000 in
theorem hk_padded.walk (k : Nat) (hk : k ≤ 20) (A0 : Option Addr) (c0 : Nat) (l0 : List Int) (w : World) (hr0 : Kd.C (Kd.int .u64) w A0 l0.length l0) (hc0 : l0.length ≤ c0) (hl : l0.length ≤ 2 ^ k) :
    Calls Tryd.prog 46 #[.slice A0 l0.length c0, .int .i64 (k : Int)] w fun e w' => ∃ v0_ : Value, e = .returned (v0_) ∧ Kd.R (Kd.int .u64) 28 w' w.heap.size (fun _ => True) v0_ (l0 ++ List.replicate (2 ^ k - l0.length) 0) ∧ Below w.heap.size w w' := by
  have HR0 := Aside0.mk hr0
  have HC0 := Aside0.mk hc0
  have HL := Aside0.mk hl
  have HP := Aside0.mk (show 2 ^ k ≤ 1048576 from Nat.pow_le_pow_right (n := 2) (by omega) hk)
  have HS := Aside0.mk (hk_shl_k hk)
  have HX := Aside0.mk (show 0 ≤ wrap64 (2 ^ min (IntKind.u64.wrap (k : Int)).toNat 64) ∧ wrap64 (2 ^ min (IntKind.u64.wrap (k : Int)).toNat 64) ≤ 1048576 by
    have hp := HP.out
    rw [hk_shl_k hk]
    generalize 2 ^ k = p at hp ⊢
    omega)
  clear hr0 hc0 hl hk
  go_enter Tryd.func46, Tryd.ntmps46
  go_wp2_with (first | ((with_reducible refine gate_dst (N := 9) rfl ?_); refine Kd.R_make (Kd.int .u64) _ 28 rfl (N := 9) rfl 22 _ _ rfl (wrap64 (2 ^ min (IntKind.u64.wrap (k : Int)).toNat 64)) rfl rfl Tryd.underlying22 (.int .u64 0) 8 info28 rfl (by decide) (by omega) 0 (ok := fun _ => True) (okp := fun _ => True) rfl (fun _ hk => hk) trivial HX.out.1 (by have := HX.out.2; omega) (Below.refl _ _) (Nat.le_refl _) ?_; intro v1 w1 ho1 hb1 hg_ hnew_; clear hg_ hnew_; rw [HS.out, Int.toNat_natCast] at ho1; have ho1 := Aside0.mk ho1; have hb1 := Aside0.mk hb1) | ((with_reducible refine gate_builtin (b := .copy) (xs := #[.tmp 10, .tmp 11]) rfl ?_); refine Kd.R_copy (enc := Value.int .u64) (h1 := fun _ => rfl) (0 : Int) (w0 := w) w.heap.size rfl (.tmp 10) (.tmp 11) 22 22 28 rfl Tryd.underlying22 (by kernel_rfl) v1 (List.replicate (2 ^ k) 0) l0 A0 l0.length _ (fun _ => True) rfl rfl ho1.out (Kd.C_below HR0.out hb1.out) hb1.out hb1.out.size ?_; intro w2 hR_ hB_ _; have hR := Aside0.mk hR_; have hB := Aside0.mk hB_; clear hR_ hB_))
  go_ret
  refine ⟨v1, rfl, ?_, hB.out⟩
  have h := hR.out
  rw [List.length_replicate, Nat.min_eq_left HL.out, List.take_length, List.drop_replicate] at h
  exact h
theorem conv_padded.calls (k : Nat) (A0 : Option Addr) (c0 : Nat) (l0 : List Int) (a1 : Int) (r : List Int) (w : World) (hr0 : Kd.C (Kd.int .u64) w A0 l0.length l0) (hc0 : l0.length ≤ c0) (h : conv_padded.f k l0 a1 = some r) :
    Calls Tryd.prog 46 #[.slice A0 l0.length c0, .int .i64 a1] w fun e w' => ∃ v0_ : Value, e = .returned (v0_) ∧ Kd.R (Kd.int .u64) 28 w' w.heap.size (fun _ => True) v0_ r ∧ Below w.heap.size w w' := by
  unfold conv_padded.f at h
  by_cases c : 0 ≤ a1 ∧ a1 ≤ 20 ∧ 0 < l0.length ∧ l0.length ≤ 2 ^ a1.toNat
  · rw [if_pos c] at h
    obtain rfl := Option.some.inj h
    obtain ⟨g0, g1, g2, g3⟩ := c
    obtain ⟨kk, rfl⟩ := Int.eq_ofNat_of_zero_le g0
    rw [Int.toNat_natCast] at g3 ⊢
    exact hk_padded.walk kk (by omega) A0 c0 l0 w hr0 hc0 g3
  · rw [if_neg c] at h; cases h

end Go.Proofs.YtjooodbjbidjiaaDoor.PConvMuls
