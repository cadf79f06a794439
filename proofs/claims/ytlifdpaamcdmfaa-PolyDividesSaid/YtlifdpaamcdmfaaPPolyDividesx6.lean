-- Written for this claim by wip/gen/mk.sh, this session's own driver over the kit's print
import Derived.Test.YtlifdpaamcdmfaaPPolyDividesx0
import Derived.Test.YtlifdpaamcdmfaaPPolyDividesx1
import Derived.Test.YtlifdpaamcdmfaaPPolyDividesx4
import Derived.Test.YtlifdpaamcdmfaaPPolyDividesx5
namespace Go.Proofs.Ytlifdpaamcdmfaa.PPolyDivides
open Go.RowKit Go.Proofs.YtlifdpaamcdmfaaW.PrintWords Go.Proofs.YtlifdpaamcdmfaaW.PrintLast Go.Proofs.YtlifdpaamcdmfaaW.PrintMore
attribute [local go_sem] max2_int min2_int max_two min_two max_three min_three max_four min_four   -- for this text's walks alone
set_option linter.unusedVariables false
set_option linter.unusedSimpArgs false

/-! ### poly_Div: function 29 -/
mutual
def poly_Div.j0 : Nat → List Int → List Int → Int → Bool → Option (List Int × List Int × Int)
  | 0, _, _, _, _ => none
  | k + 1, x0, x1, x7, x15 => if x15 = true then (some (([] : List Int), ([] : List Int), 14)) else (if x7 < 0 then (some (([] : List Int), ([] : List Int), 13)) else (if 0 ≤ x7 then (if x7 < (x1.length : Int) then ((gold_Inv.f k (rd x1 x7)).bind fun bt233 => ((poly_Trim.f k x0).bind fun t235 => (if 0 ≤ (mx (wrap64 ((t235.length : Int) - x7)) 0) then (if (mx (wrap64 ((t235.length : Int) - x7)) 0 : Int).toNat ≤ 35184372088832 then ((some (List.replicate (mx (wrap64 ((t235.length : Int) - x7)) 0 : Int).toNat 0 : List Int)).bind fun y238 => (poly_Div.l0 k x1 y238 t235 x7 bt233.1 (wrap64 ((y238.length : Int) - 1)))) else (none)) else (none)))) else (none)) else (none)))
def poly_Div.l0 : Nat → List Int → List Int → List Int → Int → Int → Int → Option (List Int × List Int × Int)
  | 0, _, _, _, _, _, _ => none
  | k + 1, x1, x4, x5, x7, x8, x10 => if x10 ≥ 0 then (if 0 ≤ (wrap64 (x10 + x7)) then (if (wrap64 (x10 + x7)) < (x5.length : Int) then ((gold_Mul.f (rd x5 (wrap64 (x10 + x7))) x8).bind fun t248 => (if 0 ≤ x10 then (if x10 < (x4.length : Int) then (poly_Div.l1 k x1 (x4.set (x10 : Int).toNat t248) x5 x7 x8 x10 t248 (wrap64 (x7 + 1)) 0) else (none)) else (none))) else (none)) else (none)) else ((poly_Trim.f k x4).bind fun t241 => ((poly_Trim.f k x5).bind fun t244 => (some (t241, t244, 0))))
def poly_Div.l1 : Nat → List Int → List Int → List Int → Int → Int → Int → Int → Int → Int → Option (List Int × List Int × Int)
  | 0, _, _, _, _, _, _, _, _, _ => none
  | k + 1, x1, x4, x5, x7, x8, x10, x11, x63, x64 => if x64 < x63 then (if 0 ≤ (wrap64 (x10 + x64)) then (if (wrap64 (x10 + x64)) < (x5.length : Int) then (if 0 ≤ x64 then (if x64 < (x1.length : Int) then ((gold_Mul.f x11 (rd x1 x64)).bind fun t252 => ((gold_Sub.f (rd x5 (wrap64 (x10 + x64))) t252).bind fun t253 => (poly_Div.l1 k x1 x4 (x5.set ((wrap64 (x10 + x64)) : Int).toNat t253) x7 x8 x10 x11 x63 (wrap64 (x64 + 1))))) else (none)) else (none)) else (none)) else (none)) else (poly_Div.l0 k x1 x4 x5 x7 x8 (wrap64 (x10 - 1)))
end
def poly_Div.f (k : Nat) (l0 : List Int) (l1 : List Int) : Option (List Int × List Int × Int) := (poly_Degree.f k l1).bind fun t231 => (if (l0.length : Int) > 4096 then (poly_Div.j0 k l0 l1 t231 true) else (poly_Div.j0 k l0 l1 t231 (decide ((l1.length : Int) > 4096))))
theorem poly_Div.mono_l : ∀ k, (∀ y0 y1 y2 y3, LeO (poly_Div.j0 k y0 y1 y2 y3) (poly_Div.j0 (k + 1) y0 y1 y2 y3)) ∧ (∀ y0 y1 y2 y3 y4 y5, LeO (poly_Div.l0 k y0 y1 y2 y3 y4 y5) (poly_Div.l0 (k + 1) y0 y1 y2 y3 y4 y5)) ∧ (∀ y0 y1 y2 y3 y4 y5 y6 y7 y8, LeO (poly_Div.l1 k y0 y1 y2 y3 y4 y5 y6 y7 y8) (poly_Div.l1 (k + 1) y0 y1 y2 y3 y4 y5 y6 y7 y8))
  | 0 => ⟨fun _ _ _ _ r h => by simp [poly_Div.j0] at h, fun _ _ _ _ _ _ r h => by simp [poly_Div.l0] at h, fun _ _ _ _ _ _ _ _ _ r h => by simp [poly_Div.l1] at h⟩
  | k + 1 => by
    obtain ⟨ih0, ih1, ih2⟩ := poly_Div.mono_l k
    refine ⟨?_, ?_, ?_⟩
    · intro y0 y1 y2 y3
      unfold poly_Div.j0
      repeat' first
      | (with_reducible exact ih0 _ _ _ _)
      | (with_reducible exact ih1 _ _ _ _ _ _)
      | (with_reducible exact ih2 _ _ _ _ _ _ _ _ _)
      | (with_reducible exact gold_Inv.mono _ _)
      | (with_reducible exact poly_Degree.mono _ _)
      | (with_reducible exact poly_Trim.mono _ _)
      | (with_reducible exact LeO.refl _)
      | (with_reducible exact LeO.none _)
      | (with_reducible refine LeO.ite ?_ ?_)
      | (with_reducible refine LeO.bind ?_ (fun _ => ?_))
      | exact ih0 _ _ _ _
      | exact ih1 _ _ _ _ _ _
      | exact ih2 _ _ _ _ _ _ _ _ _
      | exact gold_Inv.mono _ _
      | exact poly_Degree.mono _ _
      | exact poly_Trim.mono _ _
      | exact LeO.none _
      | refine LeO.ite ?_ ?_
      | refine LeO.bind ?_ (fun _ => ?_)
    · intro y0 y1 y2 y3 y4 y5
      unfold poly_Div.l0
      repeat' first
      | (with_reducible exact ih0 _ _ _ _)
      | (with_reducible exact ih1 _ _ _ _ _ _)
      | (with_reducible exact ih2 _ _ _ _ _ _ _ _ _)
      | (with_reducible exact gold_Inv.mono _ _)
      | (with_reducible exact poly_Degree.mono _ _)
      | (with_reducible exact poly_Trim.mono _ _)
      | (with_reducible exact LeO.refl _)
      | (with_reducible exact LeO.none _)
      | (with_reducible refine LeO.ite ?_ ?_)
      | (with_reducible refine LeO.bind ?_ (fun _ => ?_))
      | exact ih0 _ _ _ _
      | exact ih1 _ _ _ _ _ _
      | exact ih2 _ _ _ _ _ _ _ _ _
      | exact gold_Inv.mono _ _
      | exact poly_Degree.mono _ _
      | exact poly_Trim.mono _ _
      | exact LeO.none _
      | refine LeO.ite ?_ ?_
      | refine LeO.bind ?_ (fun _ => ?_)
    · intro y0 y1 y2 y3 y4 y5 y6 y7 y8
      unfold poly_Div.l1
      repeat' first
      | (with_reducible exact ih0 _ _ _ _)
      | (with_reducible exact ih1 _ _ _ _ _ _)
      | (with_reducible exact ih2 _ _ _ _ _ _ _ _ _)
      | (with_reducible exact gold_Inv.mono _ _)
      | (with_reducible exact poly_Degree.mono _ _)
      | (with_reducible exact poly_Trim.mono _ _)
      | (with_reducible exact LeO.refl _)
      | (with_reducible exact LeO.none _)
      | (with_reducible refine LeO.ite ?_ ?_)
      | (with_reducible refine LeO.bind ?_ (fun _ => ?_))
      | exact ih0 _ _ _ _
      | exact ih1 _ _ _ _ _ _
      | exact ih2 _ _ _ _ _ _ _ _ _
      | exact gold_Inv.mono _ _
      | exact poly_Degree.mono _ _
      | exact poly_Trim.mono _ _
      | exact LeO.none _
      | refine LeO.ite ?_ ?_
      | refine LeO.bind ?_ (fun _ => ?_)
theorem poly_Div.mono : ∀ a0 a1 k, LeO (poly_Div.f k a0 a1) (poly_Div.f (k + 1) a0 a1) := by
  intro a0 a1 k
  obtain ⟨ih0, ih1, ih2⟩ := poly_Div.mono_l k
  unfold poly_Div.f
  repeat' first
      | (with_reducible exact ih0 _ _ _ _)
      | (with_reducible exact ih1 _ _ _ _ _ _)
      | (with_reducible exact ih2 _ _ _ _ _ _ _ _ _)
      | (with_reducible exact gold_Inv.mono _ _)
      | (with_reducible exact poly_Degree.mono _ _)
      | (with_reducible exact poly_Trim.mono _ _)
      | (with_reducible exact LeO.refl _)
      | (with_reducible exact LeO.none _)
      | (with_reducible refine LeO.ite ?_ ?_)
      | (with_reducible refine LeO.bind ?_ (fun _ => ?_))
      | exact ih0 _ _ _ _
      | exact ih1 _ _ _ _ _ _
      | exact ih2 _ _ _ _ _ _ _ _ _
      | exact gold_Inv.mono _ _
      | exact poly_Degree.mono _ _
      | exact poly_Trim.mono _ _
      | exact LeO.none _
      | refine LeO.ite ?_ ?_
      | refine LeO.bind ?_ (fun _ => ?_)
def poly_Div.T17 : Bool × List (List Nat × List Nat) := (true, [([], []), ([], []), ([], []), ([1, 2], [1, 2]), ([], []), ([], []), ([], []), ([5, 6], [5, 6]), ([4, 7], [4, 7]), ([8], [8]), ([], []), ([], []), ([], []), ([11, 12], [11, 12]), ([13], [13]), ([10, 14], [10, 14]), ([9, 15, 15], [9, 15]), ([0, 3, 0, 1, 2, 3, 4, 5, 6, 7, 8, 9, 10, 11, 12, 13, 14, 15, 16], [0, 3]), ([17, 16, 16, 0, 1, 2, 3, 4, 5, 6, 7, 8, 9, 10, 11, 12, 13, 14, 15, 16], [16, 17])])
def poly_Div.B17 : List Nat := [0, 0, 0, 6, 0, 0, 0, 96, 240, 496, 0, 0, 0, 6144, 14336, 31744, 65520, 131071, 262143]
theorem poly_Div.tab17 : rtab .any (opsOf Try.f29 17) = poly_Div.T17 := by kernel_rfl
theorem poly_Div.bits17 : waitsOk poly_Div.T17.2 poly_Div.B17 = true := by kernel_rfl
set_option maxHeartbeats 80000000 in
set_option maxRecDepth 100000 in
theorem poly_Div.calls (k : Nat) (A0 : Option Addr) (c0 : Nat) (l0 : List Int) (A1 : Option Addr) (c1 : Nat) (l1 : List Int) (r1 : List Int) (r2 : List Int) (r3 : Int) (w : World) (hr0 : Kd.C (Kd.int .u64) w A0 l0.length l0) (hc0 : l0.length ≤ c0) (hr1 : Kd.C (Kd.int .u64) w A1 l1.length l1) (hc1 : l1.length ≤ c1) (h : poly_Div.f k l0 l1 = some (r1, r2, r3)) :
    Calls Try.prog 29 #[.slice A0 l0.length c0, .slice A1 l1.length c1] w fun e w' => ∃ v0_ v1_ : Value, e = .returned (.tuple #[v0_, v1_, .int .i64 r3]) ∧ Kd.R (Kd.int .u64) 27 w' w.heap.size (fun k_ => some k_ ≠ (v1_ : Value).ownBlock) v0_ r1 ∧ Kd.R (Kd.int .u64) 27 w' w.heap.size (fun k_ => some k_ ≠ (v0_ : Value).ownBlock) v1_ r2 ∧ Below w.heap.size w w' := by
  have HR0 := Aside0.mk hr0
  have HC0 := Aside0.mk hc0
  clear hr0 hc0
  have HR1 := Aside0.mk hr1
  have HC1 := Aside0.mk hc1
  clear hr1 hc1
  have HB := Aside0.mk (Below.refl w.heap.size w)
  have H : ((poly_Degree.f k l1).bind fun t231 => (if (l0.length : Int) > 4096 then (poly_Div.j0 k l0 l1 t231 true) else (poly_Div.j0 k l0 l1 t231 (decide ((l1.length : Int) > 4096))))) = some (r1, r2, r3) := h
  clear h
  replace H := Option.bind_eq_some_iff.mp H
  obtain ⟨t231, A30, H⟩ := H
  replace H : (if (l0.length : Int) > 4096 then (poly_Div.j0 k l0 l1 t231 true) else (poly_Div.j0 k l0 l1 t231 (decide ((l1.length : Int) > 4096)))) = some (r1, r2, r3) := H
  have A3 := Aside0.mk A30
  clear A30
  have HC4 := Aside0.mk H
  clear H
  go_enter Try.func29, Try.ntmps29
  go_upto_region 2 with (first | ((with_reducible refine gate_callee (f := 31) rfl ?_); refine goesL_ (some 14) rfl rfl Try.func31 (by kernel_rfl) rfl #[.slice A1 l1.length c1] rfl (by (try simp only [List.map_toArray, List.map_cons, List.map_nil]); first | done | rfl | (simp only [List.length_drop, List.length_take]; rfl)) ?_; (with_reducible refine (poly_Degree.calls k _ _ l1 t231 _ ?side1 ?side2 A3.out).mono ?_); (case side1 => repeat (first | exact HR1.out | (with_reducible refine Kd.C_alloc ?_ _) | (with_reducible refine Kd.C_drewN ?_ _) | (with_reducible refine Kd.C_drew ?_))); (case side2 => exact HC1.out); rintro e w' ⟨rfl, ⟨nd, rfl⟩⟩; refine ⟨_, rfl, ?_⟩) | (go_at_call 31; (with_reducible refine (poly_Degree.calls k _ _ l1 t231 _ ?side1 ?side2 A3.out).mono ?_); (case side1 => repeat (first | exact HR1.out | (with_reducible refine Kd.C_alloc ?_ _) | (with_reducible refine Kd.C_drewN ?_ _) | (with_reducible refine Kd.C_drew ?_))); (case side2 => exact HC1.out); rintro e w' ⟨rfl, ⟨nd, rfl⟩⟩))
  (try simp only [Act.put, List.setIfInBounds_toArray, List.set_cons_zero, List.set_cons_succ])
  go_cut [15] (fun v15 wc => ∃ (kq : Nat) (x15_3 : Bool), v15 = .bool x15_3 ∧ Aside0 (poly_Div.j0 kq l0 l1 t231 x15_3 = some (r1, r2, r3)) ∧ Aside0 (kq ≤ k) ∧ Aside0 (Below w.heap.size w wc))
  case first =>
    have H := HC4.out
    clear HC4
    by_cases c5 : (l0.length : Int) > 4096
    · rw [if_pos c5] at H
      have c5b0 : decide (4096 < (l0.length : Int)) = true := decide_eq_true c5
      have c5b1 : decide (4096 < l0.length) = true := decide_eq_true (by omega)
      clear c5
      (first | rw [c5b0] | (simp only [i64_w, i32_w]; rw [c5b0]) | skip)
      have H' := Aside0.mk H
      clear H
      go_wp2
      go_meet
      case rel => exact ⟨_, (true), (by first | rfl | (simp; done) | (simp [*]; done)), H', ⟨by first | omega | exact Nat.le_refl _⟩, ⟨by repeat (first | (with_reducible first | exact HB.out | apply below_alloc | apply pw_below_drewN | apply below_drew1) | exact HB.out)⟩⟩
    · rw [if_neg c5] at H
      have c5b0 : decide (4096 < (l0.length : Int)) = false := decide_eq_false c5
      have c5b1 : decide (4096 < l0.length) = false := decide_eq_false (by omega)
      clear c5
      (first | rw [c5b0] | (simp only [i64_w, i32_w]; rw [c5b0]) | skip)
      have H' := Aside0.mk H
      clear H
      go_wp2
      go_meet
      case rel => exact ⟨_, (decide ((l1.length : Int) > 4096)), (by first | rfl | (simp; done) | (simp [*]; done)), H', ⟨by first | omega | exact Nat.le_refl _⟩, ⟨by repeat (first | (with_reducible first | exact HB.out | apply below_alloc | apply pw_below_drewN | apply below_drew1) | exact HB.out)⟩⟩
  case rest =>
    clear HC4
    try clear c1
    try clear c2
    try clear p2
    try clear c3
    try clear c5
    try clear c5b0
    try clear c5b1
    obtain ⟨kq, x15_3, rfl, HA, HJ3, HB⟩ := hcut
    cases kq with
    | zero => exact absurd HA.out (by simp [poly_Div.j0])
    | succ kj3 =>
      have H := HA.out
      clear HA
      simp only [poly_Div.j0] at H
      by_cases c6 : x15_3 = true
      · subst c6
        have H1 : (some (([] : List Int), ([] : List Int), 14)) = some (r1, r2, r3) := by rw [if_pos rfl] at H; exact H
        clear H
        have H := H1
        clear H1
        simp only [Option.some.injEq, Prod.mk.injEq] at H
        obtain ⟨rfl, rfl, rfl⟩ := H
        go_wp2
        go_ret3
        exact ⟨_, _, by first | rfl | (simp [errW_none, errW_some] <;> rfl) | (simp [*, errW_none, errW_some] <;> rfl), by first | exact Kd.R_nil _ _ _ _ _ | exact Kd.N_nil _ _ _ _ _ | exact Kd.V_nil _ _ _ _ _ | exact Kd.Q_nil _ _ _ _ _ | exact Kd.S_nil _ _ _ _ _, by first | exact Kd.R_nil _ _ _ _ _ | exact Kd.N_nil _ _ _ _ _ | exact Kd.V_nil _ _ _ _ _ | exact Kd.Q_nil _ _ _ _ _ | exact Kd.S_nil _ _ _ _ _, by repeat (first | (with_reducible first | exact HB.out | apply below_alloc | apply pw_below_drewN | apply below_drew1) | exact HB.out)⟩
      · replace c6 := Bool.eq_false_iff.mpr c6
        subst c6
        have H1 : (if t231 < 0 then (some (([] : List Int), ([] : List Int), 13)) else (if 0 ≤ t231 then (if t231 < (l1.length : Int) then ((gold_Inv.f kj3 (rd l1 t231)).bind fun bt233 => ((poly_Trim.f kj3 l0).bind fun t235 => (if 0 ≤ (mx (wrap64 ((t235.length : Int) - t231)) 0) then (if (mx (wrap64 ((t235.length : Int) - t231)) 0 : Int).toNat ≤ 35184372088832 then ((some (List.replicate (mx (wrap64 ((t235.length : Int) - t231)) 0 : Int).toNat 0 : List Int)).bind fun y238 => (poly_Div.l0 kj3 l1 y238 t235 t231 bt233.1 (wrap64 ((y238.length : Int) - 1)))) else (none)) else (none)))) else (none)) else (none))) = some (r1, r2, r3) := by rw [if_neg (show ¬ (false = true) by decide)] at H; exact H
        clear H
        have H := H1
        clear H1
        by_cases c7 : t231 < 0
        · rw [if_pos c7] at H
          have c7b0 : decide (t231 < 0) = true := decide_eq_true c7
          clear c7
          simp only [Option.some.injEq, Prod.mk.injEq] at H
          obtain ⟨rfl, rfl, rfl⟩ := H
          go_wp2
          go_ret3
          exact ⟨_, _, by first | rfl | (simp [errW_none, errW_some] <;> rfl) | (simp [*, errW_none, errW_some] <;> rfl), by first | exact Kd.R_nil _ _ _ _ _ | exact Kd.N_nil _ _ _ _ _ | exact Kd.V_nil _ _ _ _ _ | exact Kd.Q_nil _ _ _ _ _ | exact Kd.S_nil _ _ _ _ _, by first | exact Kd.R_nil _ _ _ _ _ | exact Kd.N_nil _ _ _ _ _ | exact Kd.V_nil _ _ _ _ _ | exact Kd.Q_nil _ _ _ _ _ | exact Kd.S_nil _ _ _ _ _, by repeat (first | (with_reducible first | exact HB.out | apply below_alloc | apply pw_below_drewN | apply below_drew1) | exact HB.out)⟩
        · rw [if_neg c7] at H
          have c7b0 : decide (t231 < 0) = false := decide_eq_false c7
          clear c7
          by_cases c8 : 0 ≤ t231
          · rw [if_pos c8] at H
            have c8b0 : decide (0 ≤ t231) = true := decide_eq_true c8
            clear c8
            by_cases c9 : t231 < (l1.length : Int)
            · rw [if_pos c9] at H
              have c9b0 : decide (t231 < (l1.length : Int)) = true := decide_eq_true c9
              clear c9
              replace H := Option.bind_eq_some_iff.mp H
              obtain ⟨⟨t233, t234⟩, A100, H⟩ := H
              replace H : ((poly_Trim.f kj3 l0).bind fun t235 => (if 0 ≤ (mx (wrap64 ((t235.length : Int) - t231)) 0) then (if (mx (wrap64 ((t235.length : Int) - t231)) 0 : Int).toNat ≤ 35184372088832 then ((some (List.replicate (mx (wrap64 ((t235.length : Int) - t231)) 0 : Int).toNat 0 : List Int)).bind fun y238 => (poly_Div.l0 kj3 l1 y238 t235 t231 t233 (wrap64 ((y238.length : Int) - 1)))) else (none)) else (none))) = some (r1, r2, r3) := H
              have A10 := Aside0.mk A100
              clear A100
              replace H := Option.bind_eq_some_iff.mp H
              obtain ⟨t235, A110, H⟩ := H
              replace H : (if 0 ≤ (mx (wrap64 ((t235.length : Int) - t231)) 0) then (if (mx (wrap64 ((t235.length : Int) - t231)) 0 : Int).toNat ≤ 35184372088832 then ((some (List.replicate (mx (wrap64 ((t235.length : Int) - t231)) 0 : Int).toNat 0 : List Int)).bind fun y238 => (poly_Div.l0 kj3 l1 y238 t235 t231 t233 (wrap64 ((y238.length : Int) - 1)))) else (none)) else (none)) = some (r1, r2, r3) := H
              have A11 := Aside0.mk A110
              clear A110
              obtain ⟨ji12, hji12⟩ : ∃ j_ : Int, (mx (wrap64 ((t235.length : Int) - t231)) 0) = j_ := ⟨_, rfl⟩
              replace H : (if 0 ≤ (ji12) then (if (ji12 : Int).toNat ≤ 35184372088832 then ((some (List.replicate (ji12 : Int).toNat 0 : List Int)).bind fun y238 => (poly_Div.l0 kj3 l1 y238 t235 t231 t233 (wrap64 ((y238.length : Int) - 1)))) else (none)) else (none)) = some (r1, r2, r3) := by first | (rw [hji12] at H; exact H) | (simp only [hji12] at H ⊢; exact H)
              (try rw [hji12] at A10)
              (try rw [hji12] at A11)
              have hji12_ : (if (wrap64 ((t235.length : Int) - t231)) < 0 then 0 else (wrap64 ((t235.length : Int) - t231))) = ji12 := hji12
              by_cases c13 : 0 ≤ (ji12)
              · rw [if_pos c13] at H
                have c13b0 := eq_true c13
                have c13b1 : decide (0 ≤ (ji12)) = true := decide_eq_true c13
                clear c13
                by_cases c14 : (ji12 : Int).toNat ≤ 35184372088832
                · rw [if_pos c14] at H
                  have c14b0 := eq_true c14
                  have c14b1 : decide ((ji12 : Int).toNat ≤ 35184372088832) = true := decide_eq_true c14
                  clear c14
                  obtain ⟨y238, hy238⟩ : ∃ y_ : List Int, y_ = (List.replicate (ji12 : Int).toNat 0) := ⟨_, rfl⟩
                  replace H : (poly_Div.l0 kj3 l1 y238 t235 t231 t233 (wrap64 ((y238.length : Int) - 1))) = some (r1, r2, r3) := by first | (rw [hy238]; with_reducible exact H) | (have H2_ := (Option.bind_some _ _).symm.trans H; rw [hy238]; with_reducible exact H2_) | (have H2_ := (Option.bind_some _ _).symm.trans H; with_reducible exact H2_) | with_reducible exact H | (rw [hy238]; exact H) | exact H
                  have Ny238 := Aside0.mk hy238
                  clear hy238
                  have H' := Aside0.mk H
                  clear H
                  have p232 : 0 ≤ (t231 : Int) := of_decide_eq_true (by first | (with_reducible assumption) | assumption)
                  have q232 : t231 < (l1.length : Int) := of_decide_eq_true (by first | (with_reducible assumption) | assumption)
                  obtain ⟨ad232, e232, hx232_0⟩ := Kd.at_int HR1.out t231 p232 q232
                  cases e232
                  replace hx232_0 := (HB.out.cell (World.block_lt_of_cell? w _ hx232_0)).trans hx232_0
                  replace p232 := eq_true p232
                  replace q232 := eq_true q232
                  go_wp2_with (first | ((with_reducible refine gate_callee (f := 53) rfl ?_); refine goesL_ (some 32) rfl rfl Try.func53 (by kernel_rfl) rfl #[.int .u64 (rd l1 t231)] rfl (by (try simp only [List.map_toArray, List.map_cons, List.map_nil]); first | done | rfl | (simp only [List.length_drop, List.length_take]; rfl)) ?_; (with_reducible refine (gold_Inv.calls kj3 (rd l1 t231) t233 t234 _ A10.out).mono ?_); rintro e w15 ⟨rfl, hb⟩; refine ⟨_, rfl, ?_⟩; have n0_ := Aside0.mk (below_step (by repeat (first | (with_reducible first | exact HB.out | apply below_alloc | apply pw_below_drewN | apply below_drew1) | exact HB.out)) hb); clear HB; have HB := n0_; clear n0_; (try clear hb); (try clear hb2); (try clear hk); (try clear hi)) | (go_at_call 53; (with_reducible refine (gold_Inv.calls kj3 (rd l1 t231) t233 t234 _ A10.out).mono ?_); rintro e w15 ⟨rfl, hb⟩; have n0_ := Aside0.mk (below_step (by repeat (first | (with_reducible first | exact HB.out | apply below_alloc | apply pw_below_drewN | apply below_drew1) | exact HB.out)) hb); clear HB; have HB := n0_; clear n0_; (try clear hb); (try clear hb2); (try clear hk); (try clear hi)) | ((with_reducible refine gate_callee (f := 30) rfl ?_); refine goesL_ (some 36) rfl rfl Try.func30 (by kernel_rfl) rfl #[.slice A0 l0.length c0] rfl (by (try simp only [List.map_toArray, List.map_cons, List.map_nil]); first | done | rfl | (simp only [List.length_drop, List.length_take]; rfl)) ?_; (with_reducible refine (poly_Trim.calls kj3 _ _ l0 t235 _ ?side1 ?side2 A11.out).mono ?_); (case side1 => repeat (first | exact (Kd.C_below HR0.out HB.out) | (with_reducible refine Kd.C_alloc ?_ _) | (with_reducible refine Kd.C_drewN ?_ _) | (with_reducible refine Kd.C_drew ?_))); (case side2 => exact HC0.out); rintro e w16 ⟨v236, rfl, ho0, hb⟩; refine ⟨_, rfl, ?_⟩; have n0_ := Aside0.mk (Kd.R_lower ho0 (below_size (by repeat (first | (with_reducible first | exact HB.out | apply below_alloc | apply pw_below_drewN | apply below_drew1) | exact HB.out)))); have n1_ := Aside0.mk (below_step (by repeat (first | (with_reducible first | exact HB.out | apply below_alloc | apply pw_below_drewN | apply below_drew1) | exact HB.out)) hb); clear HB; have HO237 := n0_; have HB := n1_; clear n0_ n1_; (try clear hb); (try clear hb2); (try clear hk); (try clear hi); (try clear ho0); obtain ⟨Ao17, co17, eo17⟩ := Kd.R_slice HO237.out; subst eo17) | (go_at_call 30; (with_reducible refine (poly_Trim.calls kj3 _ _ l0 t235 _ ?side1 ?side2 A11.out).mono ?_); (case side1 => repeat (first | exact (Kd.C_below HR0.out HB.out) | (with_reducible refine Kd.C_alloc ?_ _) | (with_reducible refine Kd.C_drewN ?_ _) | (with_reducible refine Kd.C_drew ?_))); (case side2 => exact HC0.out); rintro e w16 ⟨v236, rfl, ho0, hb⟩; have n0_ := Aside0.mk (Kd.R_lower ho0 (below_size (by repeat (first | (with_reducible first | exact HB.out | apply below_alloc | apply pw_below_drewN | apply below_drew1) | exact HB.out)))); have n1_ := Aside0.mk (below_step (by repeat (first | (with_reducible first | exact HB.out | apply below_alloc | apply pw_below_drewN | apply below_drew1) | exact HB.out)) hb); clear HB; have HO237 := n0_; have HB := n1_; clear n0_ n1_; (try clear hb); (try clear hb2); (try clear hk); (try clear hi); (try clear ho0); obtain ⟨Ao17, co17, eo17⟩ := Kd.R_slice HO237.out; subst eo17) | ((with_reducible refine gate_dst (N := 42) rfl ?_); (try (refine gate_guard (by rfl) ?_; dsimp only)); refine Kd.R_make (Kd.int .u64) _ 27 rfl (N := 42) rfl 22 _ _ rfl ji12 rfl rfl Try.underlying22 (.int .u64 0) 8 info27 rfl (by decide) (by omega) 0 (ok := fun _ => True) (okp := fun _ => True) rfl (fun _ hk => hk) trivial (of_decide_eq_true (by first | (with_reducible assumption) | assumption)) (Nat.le_trans (Nat.mul_le_mul_right _ (of_decide_eq_true (by first | (with_reducible assumption) | assumption) : ji12.toNat ≤ 35184372088832)) (by omega)) (Below.refl _ _) (Nat.le_refl _) ?_; intro v239 w18 ho19 hb hg_ hnew_; clear hg_ hnew_; (first | rw [← Ny238.out] at ho19 | (simp only [Int.reduceToNat] at ho19; rw [← Ny238.out] at ho19)); have n0_ := Aside0.mk (Kd.R_elder' (by (with_reducible repeat (first | apply Kd.R_alloc | apply Kd.R_drewN | apply Kd.R_drew)); exact HO237.out) (Kd.R_base ho19) hb); have n1_ := Aside0.mk (Kd.R_lower (Kd.R_new' ho19 (Kd.R_lt (by (with_reducible repeat (first | apply Kd.R_alloc | apply Kd.R_drewN | apply Kd.R_drew)); exact HO237.out))) (below_size (by repeat (first | (with_reducible first | exact HB.out | apply below_alloc | apply pw_below_drewN | apply below_drew1) | exact HB.out)))); have n2_ := Aside0.mk (below_step (by repeat (first | (with_reducible first | exact HB.out | apply below_alloc | apply pw_below_drewN | apply below_drew1) | exact HB.out)) hb); clear HO237; clear HB; have HO237 := n0_; have HO240 := n1_; have HB := n2_; clear n0_ n1_ n2_; clear hb ho19; obtain ⟨Ao20, co20, eo20⟩ := Kd.R_slice HO240.out; subst eo20))
                  go_loopg [10] kj3 (fun kq v10 w' => ∃ (x4_2 : List Int) (x5_2 : List Int) (x10_2 : Int), v10 = .int .i64 x10_2 ∧ Aside0 (poly_Div.l0 kq l1 x4_2 x5_2 t231 t233 x10_2 = some (r1, r2, r3)) ∧ Aside0 (kq ≤ kj3) ∧ Aside0 (Kd.R (Kd.int .u64) 27 w' w.heap.size (fun k_ => some k_ ≠ ((.slice Ao17 t235.length co17) : Value).ownBlock) (.slice Ao20 y238.length co20) x4_2) ∧ Aside0 (Kd.R (Kd.int .u64) 27 w' w.heap.size (fun k_ => some k_ ≠ ((.slice Ao20 y238.length co20) : Value).ownBlock) (.slice Ao17 t235.length co17) x5_2) ∧ Aside0 (Below w.heap.size w w'))
                  case atStart => exact ⟨(y238), (t235), (wrap64 ((y238.length : Int) - 1)), (by first | rfl | (simp; done) | (simp [*]; done)), H', ⟨Nat.le_refl _⟩, ⟨by (with_reducible repeat (first | apply Kd.R_alloc | apply Kd.R_drewN | apply Kd.R_drew)); exact Kd.R_mono HO240.out (fun _ hk => hk.2)⟩, ⟨by (with_reducible repeat (first | apply Kd.R_alloc | apply Kd.R_drewN | apply Kd.R_drew)); exact Kd.R_mono HO237.out (fun _ hk => hk.2)⟩, ⟨by repeat (first | (with_reducible first | exact HB.out | apply below_alloc | apply pw_below_drewN | apply below_drew1) | exact HB.out)⟩⟩
                  case round =>
                    clear H'
                    try clear c1
                    try clear c2
                    try clear p2
                    try clear q2
                    try clear hx2
                    try clear c3
                    try clear c5
                    try clear c5b0
                    try clear c5b1
                    try clear c6
                    try clear p6
                    try clear c7
                    try clear c7b0
                    try clear c8
                    try clear c8b0
                    try clear c9
                    try clear c9b0
                    try clear c13
                    try clear c13b0
                    try clear c13b1
                    try clear c14
                    try clear c14b0
                    try clear c14b1
                    try clear hx232_0
                    try clear p2
                    try clear p232
                    try clear q232
                    obtain ⟨x4_2, x5_2, x10_2, rfl, HA, HK2, HO_4, HO_5, HB⟩ := hrel
                    have hl4_2 := (Kd.R_reads' HO_4.out).1
                    rw [hl4_2] at HO_4
                    (try simp only [hl4_2])
                    (try simp only [hl4_2] at HO_5)
                    have hl5_2 := (Kd.R_reads' HO_5.out).1
                    rw [hl5_2] at HO_5
                    (try simp only [hl5_2])
                    (try simp only [hl5_2] at HO_4)
                    cases gk with
                    | zero => exact absurd HA.out (by simp [poly_Div.l0])
                    | succ k2 =>
                      have H := HA.out
                      clear HA
                      simp only [poly_Div.l0] at H
                      by_cases c21 : x10_2 ≥ 0
                      · rw [if_pos c21] at H
                        have c21b0 : decide (0 ≤ x10_2) = true := decide_eq_true c21
                        clear c21
                        obtain ⟨ji22, hji22⟩ : ∃ j_ : Int, (wrap64 (x10_2 + t231)) = j_ := ⟨_, rfl⟩
                        replace H : (if 0 ≤ (ji22) then (if (ji22) < (x5_2.length : Int) then ((gold_Mul.f (rd x5_2 (ji22)) t233).bind fun t248 => (if 0 ≤ x10_2 then (if x10_2 < (x4_2.length : Int) then (poly_Div.l1 k2 l1 (x4_2.set (x10_2 : Int).toNat t248) x5_2 t231 t233 x10_2 t248 (wrap64 (t231 + 1)) 0) else (none)) else (none))) else (none)) else (none)) = some (r1, r2, r3) := by first | (rw [hji22] at H; exact H) | (simp only [hji22] at H ⊢; exact H)
                        have hji22w : (IntKind.i64.wrap (x10_2 + t231)) = ji22 := (i64_w _).trans hji22
                        by_cases c23 : 0 ≤ (ji22)
                        · rw [if_pos c23] at H
                          have c23b0 : decide (0 ≤ (ji22)) = true := decide_eq_true c23
                          clear c23
                          by_cases c24 : (ji22) < (x5_2.length : Int)
                          · rw [if_pos c24] at H
                            have c24b0 : decide ((ji22) < (x5_2.length : Int)) = true := decide_eq_true c24
                            (try (have c24b0_0 := c24b0; simp only [hl4_2] at c24b0_0))
                            (try (have c24b0_1 := c24b0; simp only [hl5_2] at c24b0_1))
                            clear c24
                            replace H := Option.bind_eq_some_iff.mp H
                            obtain ⟨t248, A250, H⟩ := H
                            replace H : (if 0 ≤ x10_2 then (if x10_2 < (x4_2.length : Int) then (poly_Div.l1 k2 l1 (x4_2.set (x10_2 : Int).toNat t248) x5_2 t231 t233 x10_2 t248 (wrap64 (t231 + 1)) 0) else (none)) else (none)) = some (r1, r2, r3) := H
                            have A25 := Aside0.mk A250
                            clear A250
                            by_cases c26 : 0 ≤ x10_2
                            · rw [if_pos c26] at H
                              have c26b0 : decide (0 ≤ x10_2) = true := decide_eq_true c26
                              clear c26
                              by_cases c27 : x10_2 < (x4_2.length : Int)
                              · rw [if_pos c27] at H
                                have c27b0 : decide (x10_2 < (x4_2.length : Int)) = true := decide_eq_true c27
                                (try (have c27b0_0 := c27b0; simp only [hl4_2] at c27b0_0))
                                (try (have c27b0_1 := c27b0; simp only [hl5_2] at c27b0_1))
                                clear c27
                                obtain ⟨y249, hy249⟩ : ∃ y_ : List Int, y_ = (x4_2.set (x10_2 : Int).toNat t248) := ⟨_, rfl⟩
                                replace H : (poly_Div.l1 k2 l1 y249 x5_2 t231 t233 x10_2 t248 (wrap64 (t231 + 1)) 0) = some (r1, r2, r3) := by first | (rw [hy249]; with_reducible exact H) | (have H2_ := (Option.bind_some _ _).symm.trans H; rw [hy249]; with_reducible exact H2_) | (have H2_ := (Option.bind_some _ _).symm.trans H; with_reducible exact H2_) | with_reducible exact H | (rw [hy249]; exact H) | exact H
                                have Ny249 := Aside0.mk hy249
                                clear hy249
                                have H' := Aside0.mk H
                                clear H
                                have p247 : 0 ≤ ((ji22) : Int) := of_decide_eq_true (by first | (with_reducible assumption) | assumption)
                                have q247 : (ji22) < (x5_2.length : Int) := of_decide_eq_true (by first | (with_reducible assumption) | assumption)
                                obtain ⟨ad247, e247, hx247_0⟩ := Kd.at_int (Kd.R_reads' HO_5.out).2.2 (ji22) p247 q247
                                cases e247
                                replace p247 := eq_true p247
                                replace q247 := eq_true q247
                                go_wp2_with (first | ((with_reducible refine gate_callee (f := 48) rfl ?_); refine goesL_ (some 57) rfl rfl Try.func48 (by kernel_rfl) rfl #[.int .u64 (rd x5_2 (ji22)), .int .u64 t233] rfl (by (try simp only [List.map_toArray, List.map_cons, List.map_nil]); first | done | (simp only [hji22]; rfl) | rfl | (simp only [List.length_drop, List.length_take]; rfl)) ?_; (with_reducible refine (gold_Mul.calls (rd x5_2 (ji22)) t233 t248 _ A25.out).mono ?_); rintro e w29 ⟨rfl, hb⟩; refine ⟨_, rfl, ?_⟩; have n0_ := Aside0.mk (Kd.R_below (by (with_reducible repeat (first | apply Kd.R_alloc | apply Kd.R_drewN | apply Kd.R_drew)); exact HO_4.out) hb); have n1_ := Aside0.mk (Kd.R_below (by (with_reducible repeat (first | apply Kd.R_alloc | apply Kd.R_drewN | apply Kd.R_drew)); exact HO_5.out) hb); have n2_ := Aside0.mk (below_step (by repeat (first | (with_reducible first | exact HB.out | apply below_alloc | apply pw_below_drewN | apply below_drew1) | exact HB.out)) hb); clear HO_4; clear HO_5; clear HB; have HO_4 := n0_; have HO_5 := n1_; have HB := n2_; clear n0_ n1_ n2_; (try clear hb); (try clear hb2); (try clear hk); (try clear hi); have p28 : 0 ≤ (x10_2 : Int) := of_decide_eq_true (by first | (with_reducible assumption) | assumption); have q28 : (x10_2 : Int) < ((x4_2.length : Int) : Int) := of_decide_eq_true (by first | (with_reducible assumption) | assumption); obtain ⟨go28, co28, eo28, gb28, gl28, cl28, HG28⟩ := Kd.R_form HO_4.out (by omega); (first | cases eo28 | (injection eo28 with ea_ en_ ec_; (first | subst ea_ | (injection ea_ with ea_; subst ea_)); subst ec_; clear en_)); have GB28 := Aside0.mk gb28; have GG28 := Aside0.mk HG28; clear gb28 gl28 HG28; obtain ⟨hx28_0, hf28_0⟩ := Kd.R_celln 0 HO_4.out (x10_2 : Int) p28 q28; replace p28 := eq_true p28; replace q28 := eq_true q28; obtain ⟨hy30_, hz30_⟩ := Kd.R_celln 0 HO_4.out (x10_2 : Int) (of_decide_eq_true (by first | (with_reducible assumption) | assumption)) (of_decide_eq_true (by first | (with_reducible assumption) | assumption)); have HP30 := Kd.R_putg HO_4.out (x10_2 : Int) t248) | (go_at_call 48; (with_reducible refine (gold_Mul.calls (rd x5_2 (ji22)) t233 t248 _ A25.out).mono ?_); rintro e w29 ⟨rfl, hb⟩; have n0_ := Aside0.mk (Kd.R_below (by (with_reducible repeat (first | apply Kd.R_alloc | apply Kd.R_drewN | apply Kd.R_drew)); exact HO_4.out) hb); have n1_ := Aside0.mk (Kd.R_below (by (with_reducible repeat (first | apply Kd.R_alloc | apply Kd.R_drewN | apply Kd.R_drew)); exact HO_5.out) hb); have n2_ := Aside0.mk (below_step (by repeat (first | (with_reducible first | exact HB.out | apply below_alloc | apply pw_below_drewN | apply below_drew1) | exact HB.out)) hb); clear HO_4; clear HO_5; clear HB; have HO_4 := n0_; have HO_5 := n1_; have HB := n2_; clear n0_ n1_ n2_; (try clear hb); (try clear hb2); (try clear hk); (try clear hi); have p28 : 0 ≤ (x10_2 : Int) := of_decide_eq_true (by first | (with_reducible assumption) | assumption); have q28 : (x10_2 : Int) < ((x4_2.length : Int) : Int) := of_decide_eq_true (by first | (with_reducible assumption) | assumption); obtain ⟨go28, co28, eo28, gb28, gl28, cl28, HG28⟩ := Kd.R_form HO_4.out (by omega); (first | cases eo28 | (injection eo28 with ea_ en_ ec_; (first | subst ea_ | (injection ea_ with ea_; subst ea_)); subst ec_; clear en_)); have GB28 := Aside0.mk gb28; have GG28 := Aside0.mk HG28; clear gb28 gl28 HG28; obtain ⟨hx28_0, hf28_0⟩ := Kd.R_celln 0 HO_4.out (x10_2 : Int) p28 q28; replace p28 := eq_true p28; replace q28 := eq_true q28; obtain ⟨hy30_, hz30_⟩ := Kd.R_celln 0 HO_4.out (x10_2 : Int) (of_decide_eq_true (by first | (with_reducible assumption) | assumption)) (of_decide_eq_true (by first | (with_reducible assumption) | assumption)); have HP30 := Kd.R_putg HO_4.out (x10_2 : Int) t248) | ((with_reducible refine gate_store (t := 27) (p := 61) rfl ?_); refine store_event (t := 27) (p := 61) (v := ?vo_w31) (w1 := (w29.setCell ⟨go28, (x10_2 : Int).toNat, none⟩ (.int .u64 t248))) ?hg ?ho ?hn ?hr ?_; (case ho => rfl); (case hg => rfl); (case hn => rfl); (case hr => first | (go_simp; done) | (go_simp; rfl)); intro w31 hw; have hg : w29.grownBy w31 (some go28) := (by rw [hw]; exact HP30.2); have hp_ : Kd.R (Kd.int .u64) 27 w31 w.heap.size (fun k_ => some k_ ≠ (.slice (some ad247) x5_2.length co17 : Value).ownBlock) (.slice (some ⟨go28, 0, none⟩) x4_2.length co20) y249 := (by rw [hw, Ny249.out]; exact HP30.1); clear HP30; have n0_ := Aside0.mk (hp_); have n1_ := Aside0.mk (Kd.R_after (v := (.slice (some ⟨go28, 0, none⟩) x4_2.length co20)) (v1 := (.slice (some ⟨go28, 0, none⟩) x4_2.length co20)) (ok := (fun _ => True)) (by (with_reducible repeat (first | apply Kd.R_alloc | apply Kd.R_drewN | apply Kd.R_drew)); exact Kd.R_mono HO_5.out (fun _ hk => ⟨trivial, hk⟩)) hg (.inl rfl)); have n2_ := Aside0.mk ((by rw [hw]; exact below_set (HB.out) GB28.out : Below w.heap.size w w31)); clear HO_4; clear HO_5; clear HB; have HO_4 := n0_; have HO_5 := n1_; have HB := n2_; clear n0_ n1_ n2_; clear hg hw hp_))
                                go_loopg [64] k2 (fun kq v64 w' => ∃ (x5_3 : List Int) (x64_3 : Int), v64 = .int .i64 x64_3 ∧ Aside0 (poly_Div.l1 kq l1 y249 x5_3 t231 t233 x10_2 t248 (wrap64 (t231 + 1)) x64_3 = some (r1, r2, r3)) ∧ Aside0 (kq ≤ k2) ∧ Aside0 (Kd.R (Kd.int .u64) 27 w' w.heap.size (fun k_ => some k_ ≠ ((.slice (some ad247) x5_2.length co17) : Value).ownBlock) (.slice (some ⟨go28, 0, none⟩) x4_2.length co20) y249) ∧ Aside0 (Kd.R (Kd.int .u64) 27 w' w.heap.size (fun k_ => some k_ ≠ ((.slice (some ⟨go28, 0, none⟩) x4_2.length co20) : Value).ownBlock) (.slice (some ad247) x5_2.length co17) x5_3) ∧ Aside0 (Below w.heap.size w w'))
                                case atStart => exact ⟨(x5_2), (0), (by first | rfl | (simp; done) | (simp [*]; done)), H', ⟨Nat.le_refl _⟩, ⟨by (try simp only [hl4_2]); (try simp only [hl5_2]); (with_reducible repeat (first | apply Kd.R_alloc | apply Kd.R_drewN | apply Kd.R_drew)); exact HO_4.out⟩, ⟨by (try simp only [hl4_2]); (try simp only [hl5_2]); (with_reducible repeat (first | apply Kd.R_alloc | apply Kd.R_drewN | apply Kd.R_drew)); exact Kd.R_mono HO_5.out (fun _ hk => hk.2)⟩, ⟨by repeat (first | (with_reducible first | exact HB.out | apply below_alloc | apply pw_below_drewN | apply below_drew1) | exact HB.out)⟩⟩
                                case round =>
                                  clear H'
                                  try clear c1
                                  try clear c2
                                  try clear p2
                                  try clear q2
                                  try clear hx2
                                  try clear hf2
                                  try clear c3
                                  try clear c4
                                  try clear c5
                                  try clear c5b0
                                  try clear c5b1
                                  try clear c6
                                  try clear p6
                                  try clear c7
                                  try clear c7b0
                                  try clear c8
                                  try clear c8b0
                                  try clear c9
                                  try clear c9b0
                                  try clear c13
                                  try clear c13b0
                                  try clear c13b1
                                  try clear c14
                                  try clear c14b0
                                  try clear c14b1
                                  try clear c21
                                  try clear c21b0
                                  try clear c23
                                  try clear c23b0
                                  try clear p23
                                  try clear q23
                                  try clear hx23
                                  try clear c24
                                  try clear c24b0
                                  try clear p24
                                  try clear q24
                                  try clear hx24
                                  try clear c26
                                  try clear c26b0
                                  try clear c27
                                  try clear c27b0
                                  try clear p28
                                  try clear q28
                                  try clear hx28
                                  try clear hf28
                                  try clear c29
                                  try clear c30
                                  try clear c31
                                  try clear hx232_0
                                  try clear hx247_0
                                  try clear hx28_0
                                  try clear p2
                                  try clear p232
                                  try clear p247
                                  try clear p28
                                  try clear p6
                                  try clear q2
                                  try clear q232
                                  try clear q247
                                  try clear q28
                                  obtain ⟨x5_3, x64_3, rfl, HA, HK3, HO_4, HO_5, HB⟩ := hrel
                                  have hl4_3 := (Kd.R_reads' HO_4.out).1
                                  rw [hl4_3] at HO_4
                                  (try simp only [hl4_3])
                                  (try simp only [hl4_3] at HO_5)
                                  have hl5_3 := (Kd.R_reads' HO_5.out).1
                                  rw [hl5_3] at HO_5
                                  (try simp only [hl5_3])
                                  (try simp only [hl5_3] at HO_4)
                                  cases gk with
                                  | zero => exact absurd HA.out (by simp [poly_Div.l1])
                                  | succ k3 =>
                                    have H := HA.out
                                    clear HA
                                    simp only [poly_Div.l1] at H
                                    by_cases c32 : x64_3 < (wrap64 (t231 + 1))
                                    · rw [if_pos c32] at H
                                      have c32b0 : decide (x64_3 < (wrap64 (t231 + 1))) = true := decide_eq_true c32
                                      clear c32
                                      obtain ⟨ji33, hji33⟩ : ∃ j_ : Int, (wrap64 (x10_2 + x64_3)) = j_ := ⟨_, rfl⟩
                                      replace H : (if 0 ≤ (ji33) then (if (ji33) < (x5_3.length : Int) then (if 0 ≤ x64_3 then (if x64_3 < (l1.length : Int) then ((gold_Mul.f t248 (rd l1 x64_3)).bind fun t252 => ((gold_Sub.f (rd x5_3 (ji33)) t252).bind fun t253 => (poly_Div.l1 k3 l1 y249 (x5_3.set ((ji33) : Int).toNat t253) t231 t233 x10_2 t248 (wrap64 (t231 + 1)) (wrap64 (x64_3 + 1))))) else (none)) else (none)) else (none)) else (none)) = some (r1, r2, r3) := by first | (rw [hji33] at H; exact H) | (simp only [hji33] at H ⊢; exact H)
                                      have hji33w : (IntKind.i64.wrap (x10_2 + x64_3)) = ji33 := (i64_w _).trans hji33
                                      by_cases c34 : 0 ≤ (ji33)
                                      · rw [if_pos c34] at H
                                        have c34b0 : decide (0 ≤ (ji33)) = true := decide_eq_true c34
                                        clear c34
                                        by_cases c35 : (ji33) < (x5_3.length : Int)
                                        · rw [if_pos c35] at H
                                          have c35b0 : decide ((ji33) < (x5_3.length : Int)) = true := decide_eq_true c35
                                          (try (have c35b0_0 := c35b0; simp only [hl4_2] at c35b0_0))
                                          (try (have c35b0_1 := c35b0; simp only [hl5_2] at c35b0_1))
                                          (try (have c35b0_2 := c35b0; simp only [hl4_3] at c35b0_2))
                                          (try (have c35b0_3 := c35b0; simp only [hl5_3] at c35b0_3))
                                          clear c35
                                          by_cases c36 : 0 ≤ x64_3
                                          · rw [if_pos c36] at H
                                            have c36b0 : decide (0 ≤ x64_3) = true := decide_eq_true c36
                                            clear c36
                                            by_cases c37 : x64_3 < (l1.length : Int)
                                            · rw [if_pos c37] at H
                                              have c37b0 : decide (x64_3 < (l1.length : Int)) = true := decide_eq_true c37
                                              (try (have c37b0_0 := c37b0; simp only [hl4_2] at c37b0_0))
                                              (try (have c37b0_1 := c37b0; simp only [hl5_2] at c37b0_1))
                                              (try (have c37b0_2 := c37b0; simp only [hl4_3] at c37b0_2))
                                              (try (have c37b0_3 := c37b0; simp only [hl5_3] at c37b0_3))
                                              clear c37
                                              replace H := Option.bind_eq_some_iff.mp H
                                              obtain ⟨t252, A380, H⟩ := H
                                              replace H : ((gold_Sub.f (rd x5_3 (ji33)) t252).bind fun t253 => (poly_Div.l1 k3 l1 y249 (x5_3.set ((ji33) : Int).toNat t253) t231 t233 x10_2 t248 (wrap64 (t231 + 1)) (wrap64 (x64_3 + 1)))) = some (r1, r2, r3) := H
                                              have A38 := Aside0.mk A380
                                              clear A380
                                              replace H := Option.bind_eq_some_iff.mp H
                                              obtain ⟨t253, A390, H⟩ := H
                                              replace H : (poly_Div.l1 k3 l1 y249 (x5_3.set ((ji33) : Int).toNat t253) t231 t233 x10_2 t248 (wrap64 (t231 + 1)) (wrap64 (x64_3 + 1))) = some (r1, r2, r3) := H
                                              have A39 := Aside0.mk A390
                                              clear A390
                                              obtain ⟨y254, hy254⟩ : ∃ y_ : List Int, y_ = (x5_3.set ((ji33) : Int).toNat t253) := ⟨_, rfl⟩
                                              replace H : (poly_Div.l1 k3 l1 y249 y254 t231 t233 x10_2 t248 (wrap64 (t231 + 1)) (wrap64 (x64_3 + 1))) = some (r1, r2, r3) := by first | (rw [hy254]; with_reducible exact H) | (have H2_ := (Option.bind_some _ _).symm.trans H; rw [hy254]; with_reducible exact H2_) | (have H2_ := (Option.bind_some _ _).symm.trans H; with_reducible exact H2_) | with_reducible exact H | (rw [hy254]; exact H) | exact H
                                              have Ny254 := Aside0.mk hy254
                                              clear hy254
                                              have H' := Aside0.mk H
                                              clear H
                                              try go_wp2
                                              have n0_ := Aside0.mk (Kd.R_drew HO_4.out)
                                              have n1_ := Aside0.mk (Kd.R_drew HO_5.out)
                                              have n2_ := Aside0.mk (below_drew1 HB.out)
                                              clear HO_4
                                              clear HO_5
                                              clear HB
                                              have HO_4 := n0_
                                              have HO_5 := n1_
                                              have HB := n2_
                                              clear n0_ n1_ n2_
                                              have p250 : 0 ≤ ((ji33) : Int) := of_decide_eq_true (by first | (with_reducible assumption) | assumption)
                                              have q250 : (ji33) < (x5_3.length : Int) := of_decide_eq_true (by first | (with_reducible assumption) | assumption)
                                              obtain ⟨ad250, e250, hx250_0⟩ := Kd.at_int (Kd.R_reads' HO_5.out).2.2 (ji33) p250 q250
                                              obtain rfl : ad247 = ad250 := (by injection e250)
                                              replace p250 := eq_true p250
                                              replace q250 := eq_true q250
                                              have p251 : 0 ≤ (x64_3 : Int) := of_decide_eq_true (by first | (with_reducible assumption) | assumption)
                                              have q251 : x64_3 < (l1.length : Int) := of_decide_eq_true (by first | (with_reducible assumption) | assumption)
                                              obtain ⟨ad251, e251, hx251_0⟩ := Kd.at_int HR1.out x64_3 p251 q251
                                              have hw251_0 := hx251_0
                                              obtain rfl : ad232 = ad251 := (by injection e251)
                                              replace hx251_0 := (HB.out.cell (World.block_lt_of_cell? w _ hx251_0)).trans hx251_0
                                              replace p251 := eq_true p251
                                              replace q251 := eq_true q251
                                              refine start_ (n := 19) (S := fun w' => w'.cell? (ad247.add ((ji33)).toNat) = some (.int .u64 (rd x5_3 (ji33))) ∧ w'.cell? (ad232.add (x64_3).toNat) = some (.int .u64 (rd l1 x64_3))) (ds := [18]) #[false, false, false, false, false, false, false, false, false, false, false, false, false, false, false, false, false, false, false] (by kernel_rfl) rfl rfl ⟨hx250_0, ((HB.out.cell (World.block_lt_of_cell? w _ hw251_0)).trans hw251_0)⟩ (fun hHeld => ?_); refine with_tabW poly_Div.tab17 poly_Div.bits17 (fun HT_ HW_ => ?_)
                                              generalize wr.drew = w41 at HO_4 HO_5 HB hx250_0 hx251_0 hHeld ⊢
                                              refine pure_ (i := 0) (N := some 67) (v := ?_) (a' := ?_) #[true, false, false, false, false, false, false, false, false, false, false, false, false, false, false, false, false, false, false] rfl rfl (any_of HT_.out (by kernel_rfl)) (fun _ _ _ h => h) (Or.inl ⟨by rfl, ?_⟩) ?_ ?_
                                              rotate_left
                                              · intro w'
                                                go_simp
                                                with_reducible rfl
                                              rotate_left
                                              · simp only [Act.put, List.setIfInBounds_toArray, List.set_cons_zero, List.set_cons_succ, i64_w, i32_w]
                                                rfl
                                              refine pure_ (i := 1) (N := some 68) (v := ?_) (a' := ?_) #[true, true, false, false, false, false, false, false, false, false, false, false, false, false, false, false, false, false, false] rfl rfl (any_of HT_.out (by kernel_rfl)) (fun _ _ _ h => h) (Or.inl ⟨by rfl, ?_⟩) ?_ ?_
                                              rotate_left
                                              · intro w'
                                                go_simp
                                                with_reducible rfl
                                              rotate_left
                                              · simp only [Act.put, List.setIfInBounds_toArray, List.set_cons_zero, List.set_cons_succ, i64_w, i32_w]
                                                rfl
                                              refine pure_ (i := 2) (N := some 69) (v := ?_) (a' := ?_) #[true, true, true, false, false, false, false, false, false, false, false, false, false, false, false, false, false, false, false] rfl rfl (any_of HT_.out (by kernel_rfl)) (fun _ _ _ h => h) (Or.inl ⟨by rfl, ?_⟩) ?_ ?_
                                              rotate_left
                                              · intro w'
                                                go_simp
                                                with_reducible rfl
                                              rotate_left
                                              · simp only [Act.put, List.setIfInBounds_toArray, List.set_cons_zero, List.set_cons_succ, i64_w, i32_w]
                                                rfl
                                              refine pure_ (i := 3) (N := some 70) (v := ?_) (a' := ?_) #[true, true, true, true, false, false, false, false, false, false, false, false, false, false, false, false, false, false, false] rfl rfl (any_of HT_.out (by kernel_rfl)) (fun _ _ _ h => h) (Or.inl ⟨by rfl, ?_⟩) ?_ ?_
                                              rotate_left
                                              · intro w'
                                                go_simp
                                                with_reducible rfl
                                              rotate_left
                                              · simp only [Act.put, List.setIfInBounds_toArray, List.set_cons_zero, List.set_cons_succ, i64_w, i32_w]
                                                rfl
                                              refine pure_ (i := 4) (N := some 71) (v := ?_) (a' := ?_) #[true, true, true, true, true, false, false, false, false, false, false, false, false, false, false, false, false, false, false] rfl rfl (any_of HT_.out (by kernel_rfl)) (fun _ _ _ h => h) (Or.inl ⟨by rfl, ?_⟩) ?_ ?_
                                              rotate_left
                                              · intro w'
                                                go_simp
                                                with_reducible rfl
                                              rotate_left
                                              · simp only [Act.put, List.setIfInBounds_toArray, List.set_cons_zero, List.set_cons_succ, i64_w, i32_w]
                                                rfl
                                              refine pure_ (i := 5) (N := some 72) (v := ?_) (a' := ?_) #[true, true, true, true, true, true, false, false, false, false, false, false, false, false, false, false, false, false, false] rfl rfl (any_of HT_.out (by kernel_rfl)) (fun _ _ _ h => h) (Or.inl ⟨by rfl, ?_⟩) ?_ ?_
                                              rotate_left
                                              · intro w'
                                                go_simp
                                                with_reducible rfl
                                              rotate_left
                                              · simp only [Act.put, List.setIfInBounds_toArray, List.set_cons_zero, List.set_cons_succ, i64_w, i32_w]
                                                rfl
                                              refine pure_ (i := 6) (N := some 73) (v := ?_) (a' := ?_) #[true, true, true, true, true, true, true, false, false, false, false, false, false, false, false, false, false, false, false] rfl rfl (any_of HT_.out (by kernel_rfl)) (fun _ _ _ h => h) (Or.inl ⟨by rfl, ?_⟩) ?_ ?_
                                              rotate_left
                                              · intro w'
                                                go_simp
                                                with_reducible rfl
                                              rotate_left
                                              · simp only [Act.put, List.setIfInBounds_toArray, List.set_cons_zero, List.set_cons_succ, i64_w, i32_w]
                                                rfl
                                              refine pure_ (i := 7) (N := some 74) (v := ?_) (a' := ?_) #[true, true, true, true, true, true, true, true, false, false, false, false, false, false, false, false, false, false, false] rfl rfl (any_of HT_.out (by kernel_rfl)) (fun _ _ _ h => h) (Or.inl ⟨by rfl, ?_⟩) ?_ ?_
                                              rotate_left
                                              · intro w'
                                                go_simp
                                                with_reducible rfl
                                              rotate_left
                                              · simp only [Act.put, List.setIfInBounds_toArray, List.set_cons_zero, List.set_cons_succ, i64_w, i32_w]
                                                rfl
                                              refine pure_ (i := 8) (N := some 75) (v := ?_) (a' := ?_) #[true, true, true, true, true, true, true, true, true, false, false, false, false, false, false, false, false, false, false] rfl rfl (any_of HT_.out (by kernel_rfl)) (fun _ _ _ h => h) (Or.inl ⟨by rfl, ?_⟩) ?_ ?_
                                              rotate_left
                                              · intro w'
                                                go_simp
                                                with_reducible rfl
                                              rotate_left
                                              · simp only [Act.put, List.setIfInBounds_toArray, List.set_cons_zero, List.set_cons_succ, i64_w, i32_w]
                                                rfl
                                              refine pure_ (i := 10) (N := some 77) (v := ?_) (a' := ?_) #[true, true, true, true, true, true, true, true, true, false, true, false, false, false, false, false, false, false, false] rfl rfl (any_of HT_.out (by kernel_rfl)) (fun _ _ _ h => h) (Or.inl ⟨by rfl, ?_⟩) ?_ ?_
                                              rotate_left
                                              · intro w'
                                                go_simp
                                                with_reducible rfl
                                              rotate_left
                                              · simp only [Act.put, List.setIfInBounds_toArray, List.set_cons_zero, List.set_cons_succ, i64_w, i32_w]
                                                rfl
                                              refine pure_ (i := 11) (N := some 78) (v := ?_) (a' := ?_) #[true, true, true, true, true, true, true, true, true, false, true, true, false, false, false, false, false, false, false] rfl rfl (any_of HT_.out (by kernel_rfl)) (fun _ _ _ h => h) (Or.inl ⟨by rfl, ?_⟩) ?_ ?_
                                              rotate_left
                                              · intro w'
                                                go_simp
                                                with_reducible rfl
                                              rotate_left
                                              · simp only [Act.put, List.setIfInBounds_toArray, List.set_cons_zero, List.set_cons_succ, i64_w, i32_w]
                                                rfl
                                              refine pure_ (i := 12) (N := some 79) (v := ?_) (a' := ?_) #[true, true, true, true, true, true, true, true, true, false, true, true, true, false, false, false, false, false, false] rfl rfl (any_of HT_.out (by kernel_rfl)) (fun _ _ _ h => h) (Or.inl ⟨by rfl, ?_⟩) ?_ ?_
                                              rotate_left
                                              · intro w'
                                                go_simp
                                                with_reducible rfl
                                              rotate_left
                                              · simp only [Act.put, List.setIfInBounds_toArray, List.set_cons_zero, List.set_cons_succ, i64_w, i32_w]
                                                rfl
                                              refine pure_ (i := 13) (N := some 80) (v := ?_) (a' := ?_) #[true, true, true, true, true, true, true, true, true, false, true, true, true, true, false, false, false, false, false] rfl rfl (any_of HT_.out (by kernel_rfl)) (fun _ _ _ h => h) (Or.inl ⟨by rfl, ?_⟩) ?_ ?_
                                              rotate_left
                                              · intro w'
                                                go_simp
                                                with_reducible rfl
                                              rotate_left
                                              · simp only [Act.put, List.setIfInBounds_toArray, List.set_cons_zero, List.set_cons_succ, i64_w, i32_w]
                                                rfl
                                              refine take_ (i := 9) (N := some 76) (v := ?_) (a' := ?_) #[true, true, true, true, true, true, true, true, true, true, true, true, true, true, false, false, false, false, false] rfl rfl (take_ofW HT_.out HW_.out (by kernel_rfl)) (fun _ _ _ h => h) (Or.inl ⟨by rfl, ?_⟩) hHeld ?_ ?_
                                              rotate_left
                                              · rintro w' ⟨s0, s1⟩
                                                go_simp
                                                with_reducible rfl
                                              rotate_left
                                              · simp only [Act.put, List.setIfInBounds_toArray, List.set_cons_zero, List.set_cons_succ, i64_w, i32_w]
                                                rfl
                                              refine take_ (i := 14) (N := some 81) (v := ?_) (a' := ?_) #[true, true, true, true, true, true, true, true, true, true, true, true, true, true, true, false, false, false, false] rfl rfl (take_ofW HT_.out HW_.out (by kernel_rfl)) (fun _ _ _ h => h) (Or.inl ⟨by rfl, ?_⟩) hHeld ?_ ?_
                                              rotate_left
                                              · rintro w' ⟨s0, s1⟩
                                                go_simp
                                                with_reducible rfl
                                              rotate_left
                                              · simp only [Act.put, List.setIfInBounds_toArray, List.set_cons_zero, List.set_cons_succ, i64_w, i32_w]
                                                rfl
                                              refine one_ (i := 15) (N := some 82) #[true, true, true, true, true, true, true, true, true, true, true, true, true, true, true, true, false, false, false] rfl rfl (one_of HT_.out (by kernel_rfl)) (by decide) (fun K hK => ?_)
                                              refine goes_ Try.func48 (by kernel_rfl) rfl #[.int .u64 t248, .int .u64 (rd l1 x64_3)] (by rfl) rfl rfl (by (try simp only [List.map_toArray, List.map_cons, List.map_nil]); first | done | rfl | (simp only [List.length_drop, List.length_take]; rfl)) ?_
                                              with_reducible refine (gold_Mul.calls t248 (rd l1 x64_3) t252 _ A38.out).mono ?_
                                              rintro e w42 ⟨rfl, hb⟩
                                              have HS0_ := (hb.cell (World.block_lt_of_cell? _ _ (hHeld.1))).trans (hHeld.1)
                                              refine ⟨_, rfl, ?_⟩
                                              have n0_ := Aside0.mk (Kd.R_below (by (with_reducible repeat (first | apply Kd.R_alloc | apply Kd.R_drewN | apply Kd.R_drew)); exact HO_4.out) hb)
                                              have n1_ := Aside0.mk (Kd.R_below (by (with_reducible repeat (first | apply Kd.R_alloc | apply Kd.R_drewN | apply Kd.R_drew)); exact HO_5.out) hb)
                                              have n2_ := Aside0.mk (below_step (by repeat (first | (with_reducible first | exact HB.out | apply below_alloc | apply pw_below_drewN | apply below_drew1) | exact HB.out)) hb)
                                              clear HO_4
                                              clear HO_5
                                              clear HB
                                              have HO_4 := n0_
                                              have HO_5 := n1_
                                              have HB := n2_
                                              clear n0_ n1_ n2_
                                              (try clear hb)
                                              (try clear hb2)
                                              (try clear hk)
                                              (try clear hi)
                                              refine hK.out _ _ ⟨HS0_, ((HB.out.cell (World.block_lt_of_cell? w _ hw251_0)).trans hw251_0)⟩ (fun hHeld => ?_)
                                              clear hK K
                                              refine norm_ (a' := ?_) ?_ ?_
                                              rotate_left
                                              · show Act.put _ (some 82) _ = _
                                                simp only [Act.put, List.setIfInBounds_toArray, List.set_cons_zero, List.set_cons_succ, i64_w, i32_w]
                                                rfl
                                              refine one_ (i := 16) (N := some 83) #[true, true, true, true, true, true, true, true, true, true, true, true, true, true, true, true, true, false, false] rfl rfl (one_of HT_.out (by kernel_rfl)) (by decide) (fun K hK => ?_)
                                              refine goes_ Try.func47 (by kernel_rfl) rfl #[.int .u64 (rd x5_3 (ji33)), .int .u64 t252] (by rfl) rfl rfl (by (try simp only [List.map_toArray, List.map_cons, List.map_nil]); first | done | (simp only [hji33]; rfl) | rfl | (simp only [List.length_drop, List.length_take]; rfl)) ?_
                                              with_reducible refine (gold_Sub.calls (rd x5_3 (ji33)) t252 t253 _ A39.out).mono ?_
                                              rintro e w43 ⟨rfl, hb⟩
                                              have HS0_ := (hb.cell (World.block_lt_of_cell? _ _ (hHeld.1))).trans (hHeld.1)
                                              refine ⟨_, rfl, ?_⟩
                                              have n0_ := Aside0.mk (Kd.R_below (by (with_reducible repeat (first | apply Kd.R_alloc | apply Kd.R_drewN | apply Kd.R_drew)); exact HO_4.out) hb)
                                              have n1_ := Aside0.mk (Kd.R_below (by (with_reducible repeat (first | apply Kd.R_alloc | apply Kd.R_drewN | apply Kd.R_drew)); exact HO_5.out) hb)
                                              have n2_ := Aside0.mk (below_step (by repeat (first | (with_reducible first | exact HB.out | apply below_alloc | apply pw_below_drewN | apply below_drew1) | exact HB.out)) hb)
                                              clear HO_4
                                              clear HO_5
                                              clear HB
                                              have HO_4 := n0_
                                              have HO_5 := n1_
                                              have HB := n2_
                                              clear n0_ n1_ n2_
                                              (try clear hb)
                                              (try clear hb2)
                                              (try clear hk)
                                              (try clear hi)
                                              have p40 : 0 ≤ ((ji33) : Int) := of_decide_eq_true (by first | (with_reducible assumption) | assumption)
                                              have q40 : ((ji33) : Int) < ((x5_3.length : Int) : Int) := of_decide_eq_true (by first | (with_reducible assumption) | assumption)
                                              obtain ⟨go40, co40, eo40, gb40, gl40, cl40, HG40⟩ := Kd.R_form HO_5.out (by omega)
                                              (first | cases eo40 | (injection eo40 with ea_ en_ ec_; (first | subst ea_ | (injection ea_ with ea_; subst ea_)); subst ec_; clear en_))
                                              have GB40 := Aside0.mk gb40
                                              have GG40 := Aside0.mk HG40
                                              clear gb40 gl40 HG40
                                              (first | simp only [add_plain] at hx247_0 | skip)
                                              (first | simp only [add_plain] at hx250_0 | skip)
                                              obtain ⟨hx40_0, hf40_0⟩ := Kd.R_celln 0 HO_5.out ((ji33) : Int) p40 q40
                                              replace p40 := eq_true p40
                                              replace q40 := eq_true q40
                                              have HP44 := Kd.R_putn HO_5.out ((ji33) : Int) t253
                                              rw [← Ny254.out] at HP44
                                              have HQ44 := Aside0.mk HP44
                                              clear HP44
                                              refine hK.out _ _ ⟨HS0_, ((HB.out.cell (World.block_lt_of_cell? w _ hw251_0)).trans hw251_0)⟩ (fun hHeld => ?_)
                                              clear hK K
                                              refine norm_ (a' := ?_) ?_ ?_
                                              rotate_left
                                              · show Act.put _ (some 83) _ = _
                                                simp only [Act.put, List.setIfInBounds_toArray, List.set_cons_zero, List.set_cons_succ, i64_w, i32_w]
                                                rfl
                                              refine pure_ (i := 17) (N := some 84) (v := ?_) (a' := ?_) #[true, true, true, true, true, true, true, true, true, true, true, true, true, true, true, true, true, true, false] rfl rfl (any_of HT_.out (by kernel_rfl)) (fun _ _ _ h => h) (Or.inl ⟨by rfl, ?_⟩) ?_ ?_
                                              rotate_left
                                              · intro w'
                                                go_simp
                                                with_reducible rfl
                                              rotate_left
                                              · simp only [Act.put, List.setIfInBounds_toArray, List.set_cons_zero, List.set_cons_succ, i64_w, i32_w]
                                                rfl
                                              refine last_ (i := 18) (N := none) #[true, true, true, true, true, true, true, true, true, true, true, true, true, true, true, true, true, true, true] rfl rfl (one_of HT_.out (by kernel_rfl)) (by decide) (fun K hK => ?_)
                                              refine skip_ (w1 := ?_) (by rfl) rfl ?_ ?_
                                              rotate_left
                                              · go_simp
                                                rfl
                                              refine hK.out _ _ ?_
                                              clear hK K
                                              refine done_ (done_of HT_.out (by kernel_rfl)) ?_
                                              try go_wp2
                                              (try simp only [← hl4_3, ← hl5_3])
                                              (first | go_roundg k3 | (simp only [add_plain] at *; go_roundg k3))
                                              case measure => have := HJ3.out; have := HK2.out; have := HK3.out; omega
                                              case rel => exact ⟨(y254), (wrap64 (x64_3 + 1)), (by first | rfl | (simp; done) | (simp [*]; done)), H', ⟨by have := HJ3.out; have := HK2.out; have := HK3.out; omega⟩, ⟨by (try simp only [hl4_2]); (try simp only [hl5_2]); (try simp only [hl4_3]); (try simp only [hl5_3]); (with_reducible repeat (first | apply Kd.R_alloc | apply Kd.R_drewN | apply Kd.R_drew)); exact Kd.R_mono (Kd.R_far (p := ⟨go40, ((ji33) : Int).toNat, none⟩) (Kd.R_mono HO_4.out (fun k_ hk => (⟨hk, fun e_ => hk (by rw [e_]; rfl)⟩ : _ ∧ k_ ≠ go40))) (fun _ hk => hk.2) (.int .u64 t253)) (fun _ hk => hk.1)⟩, ⟨by (try simp only [hl4_2]); (try simp only [hl5_2]); (try simp only [hl4_3]); (try simp only [hl5_3]); (with_reducible repeat (first | apply Kd.R_alloc | apply Kd.R_drewN | apply Kd.R_drew)); exact HQ44.out⟩, ⟨by repeat (first | (with_reducible first | exact HB.out | apply below_alloc | apply pw_below_drewN | apply below_drew1 | refine below_set ?_ GB40.out) | exact HB.out)⟩⟩
                                            · rw [if_neg c37] at H
                                              exact absurd H (by simp)
                                          · rw [if_neg c36] at H
                                            exact absurd H (by simp)
                                        · rw [if_neg c35] at H
                                          exact absurd H (by simp)
                                      · rw [if_neg c34] at H
                                        exact absurd H (by simp)
                                    · rw [if_neg c32] at H
                                      have c32b0 : decide (x64_3 < (wrap64 (t231 + 1))) = false := decide_eq_false c32
                                      clear c32
                                      have H' := Aside0.mk H
                                      clear H
                                      go_wp2
                                      (try simp only [← hl4_2, ← hl5_2, ← hl4_3, ← hl5_3])
                                      (first | go_roundg k3 | (simp only [add_plain] at *; go_roundg k3))
                                      case measure => have := HJ3.out; have := HK2.out; have := HK3.out; omega
                                      case rel => exact ⟨(y249), (x5_3), (wrap64 (x10_2 - 1)), (by first | rfl | (simp; done) | (simp [*]; done)), H', ⟨by have := HJ3.out; have := HK2.out; have := HK3.out; omega⟩, ⟨by (try simp only [hl4_2]); (try simp only [hl5_2]); (try simp only [hl4_3]); (try simp only [hl5_3]); (with_reducible repeat (first | apply Kd.R_alloc | apply Kd.R_drewN | apply Kd.R_drew)); exact HO_4.out⟩, ⟨by (try simp only [hl4_2]); (try simp only [hl5_2]); (try simp only [hl4_3]); (try simp only [hl5_3]); (with_reducible repeat (first | apply Kd.R_alloc | apply Kd.R_drewN | apply Kd.R_drew)); exact HO_5.out⟩, ⟨by repeat (first | (with_reducible first | exact HB.out | apply below_alloc | apply pw_below_drewN | apply below_drew1) | exact HB.out)⟩⟩
                              · rw [if_neg c27] at H
                                exact absurd H (by simp)
                            · rw [if_neg c26] at H
                              exact absurd H (by simp)
                          · rw [if_neg c24] at H
                            exact absurd H (by simp)
                        · rw [if_neg c23] at H
                          exact absurd H (by simp)
                      · rw [if_neg c21] at H
                        have c21b0 : decide (0 ≤ x10_2) = false := decide_eq_false c21
                        clear c21
                        replace H := Option.bind_eq_some_iff.mp H
                        obtain ⟨t241, A450, H⟩ := H
                        replace H : ((poly_Trim.f k2 x5_2).bind fun t244 => (some (t241, t244, 0))) = some (r1, r2, r3) := H
                        have A45 := Aside0.mk A450
                        clear A450
                        replace H := Option.bind_eq_some_iff.mp H
                        obtain ⟨t244, A460, H⟩ := H
                        replace H : (some (t241, t244, 0)) = some (r1, r2, r3) := H
                        have A46 := Aside0.mk A460
                        clear A460
                        simp only [Option.some.injEq, Prod.mk.injEq] at H
                        obtain ⟨rfl, rfl, rfl⟩ := H
                        go_wp2_with (first | ((with_reducible refine gate_callee (f := 30) rfl ?_); refine goesL_ (some 87) rfl rfl Try.func30 (by kernel_rfl) rfl #[.slice Ao20 x4_2.length co20] rfl (by (try simp only [List.map_toArray, List.map_cons, List.map_nil]); first | done | rfl | (simp only [List.length_drop, List.length_take]; rfl)) ?_; (with_reducible refine (poly_Trim.calls k2 _ _ x4_2 t241 _ ?side1 ?side2 A45.out).mono ?_); (case side1 => repeat (first | exact (Kd.R_reads' HO_4.out).2.2 | (with_reducible refine Kd.C_alloc ?_ _) | (with_reducible refine Kd.C_drewN ?_ _) | (with_reducible refine Kd.C_drew ?_))); (case side2 => exact (Kd.R_reads' HO_4.out).2.1); rintro e w47 ⟨v242, rfl, ho0, hb⟩; refine ⟨_, rfl, ?_⟩; have n0_ := Aside0.mk (Kd.R_elder' (by (with_reducible repeat (first | apply Kd.R_alloc | apply Kd.R_drewN | apply Kd.R_drew)); exact HO_4.out) (Kd.R_base ho0) hb); have n1_ := Aside0.mk (Kd.R_elder' (by (with_reducible repeat (first | apply Kd.R_alloc | apply Kd.R_drewN | apply Kd.R_drew)); exact HO_5.out) (Kd.R_base ho0) hb); have n2_ := Aside0.mk (Kd.R_lower (Kd.R_new' (Kd.R_new' ho0 (Kd.R_lt (by (with_reducible repeat (first | apply Kd.R_alloc | apply Kd.R_drewN | apply Kd.R_drew)); exact HO_4.out))) (Kd.R_lt (by (with_reducible repeat (first | apply Kd.R_alloc | apply Kd.R_drewN | apply Kd.R_drew)); exact HO_5.out))) (below_size (by repeat (first | (with_reducible first | exact HB.out | apply below_alloc | apply pw_below_drewN | apply below_drew1) | exact HB.out)))); have n3_ := Aside0.mk (below_step (by repeat (first | (with_reducible first | exact HB.out | apply below_alloc | apply pw_below_drewN | apply below_drew1) | exact HB.out)) hb); clear HO_4; clear HO_5; clear HB; have HO_4 := n0_; have HO_5 := n1_; have HO243 := n2_; have HB := n3_; clear n0_ n1_ n2_ n3_; (try clear hb); (try clear hb2); (try clear hk); (try clear hi); (try clear ho0)) | (go_at_call 30; (with_reducible refine (poly_Trim.calls k2 _ _ x4_2 t241 _ ?side1 ?side2 A45.out).mono ?_); (case side1 => repeat (first | exact (Kd.R_reads' HO_4.out).2.2 | (with_reducible refine Kd.C_alloc ?_ _) | (with_reducible refine Kd.C_drewN ?_ _) | (with_reducible refine Kd.C_drew ?_))); (case side2 => exact (Kd.R_reads' HO_4.out).2.1); rintro e w47 ⟨v242, rfl, ho0, hb⟩; have n0_ := Aside0.mk (Kd.R_elder' (by (with_reducible repeat (first | apply Kd.R_alloc | apply Kd.R_drewN | apply Kd.R_drew)); exact HO_4.out) (Kd.R_base ho0) hb); have n1_ := Aside0.mk (Kd.R_elder' (by (with_reducible repeat (first | apply Kd.R_alloc | apply Kd.R_drewN | apply Kd.R_drew)); exact HO_5.out) (Kd.R_base ho0) hb); have n2_ := Aside0.mk (Kd.R_lower (Kd.R_new' (Kd.R_new' ho0 (Kd.R_lt (by (with_reducible repeat (first | apply Kd.R_alloc | apply Kd.R_drewN | apply Kd.R_drew)); exact HO_4.out))) (Kd.R_lt (by (with_reducible repeat (first | apply Kd.R_alloc | apply Kd.R_drewN | apply Kd.R_drew)); exact HO_5.out))) (below_size (by repeat (first | (with_reducible first | exact HB.out | apply below_alloc | apply pw_below_drewN | apply below_drew1) | exact HB.out)))); have n3_ := Aside0.mk (below_step (by repeat (first | (with_reducible first | exact HB.out | apply below_alloc | apply pw_below_drewN | apply below_drew1) | exact HB.out)) hb); clear HO_4; clear HO_5; clear HB; have HO_4 := n0_; have HO_5 := n1_; have HO243 := n2_; have HB := n3_; clear n0_ n1_ n2_ n3_; (try clear hb); (try clear hb2); (try clear hk); (try clear hi); (try clear ho0)) | ((with_reducible refine gate_callee (f := 30) rfl ?_); refine goesL_ (some 89) rfl rfl Try.func30 (by kernel_rfl) rfl #[.slice Ao17 x5_2.length co17] rfl (by (try simp only [List.map_toArray, List.map_cons, List.map_nil]); first | done | rfl | (simp only [List.length_drop, List.length_take]; rfl)) ?_; (with_reducible refine (poly_Trim.calls k2 _ _ x5_2 t244 _ ?side1 ?side2 A46.out).mono ?_); (case side1 => repeat (first | exact (Kd.R_reads' HO_5.out).2.2 | (with_reducible refine Kd.C_alloc ?_ _) | (with_reducible refine Kd.C_drewN ?_ _) | (with_reducible refine Kd.C_drew ?_))); (case side2 => exact (Kd.R_reads' HO_5.out).2.1); rintro e w48 ⟨v245, rfl, ho0, hb⟩; refine ⟨_, rfl, ?_⟩; have n0_ := Aside0.mk (Kd.R_elder' (by (with_reducible repeat (first | apply Kd.R_alloc | apply Kd.R_drewN | apply Kd.R_drew)); exact HO_4.out) (Kd.R_base ho0) hb); have n1_ := Aside0.mk (Kd.R_elder' (by (with_reducible repeat (first | apply Kd.R_alloc | apply Kd.R_drewN | apply Kd.R_drew)); exact HO_5.out) (Kd.R_base ho0) hb); have n2_ := Aside0.mk (Kd.R_elder' (by (with_reducible repeat (first | apply Kd.R_alloc | apply Kd.R_drewN | apply Kd.R_drew)); exact HO243.out) (Kd.R_base ho0) hb); have n3_ := Aside0.mk (Kd.R_lower (Kd.R_new' (Kd.R_new' (Kd.R_new' ho0 (Kd.R_lt (by (with_reducible repeat (first | apply Kd.R_alloc | apply Kd.R_drewN | apply Kd.R_drew)); exact HO_4.out))) (Kd.R_lt (by (with_reducible repeat (first | apply Kd.R_alloc | apply Kd.R_drewN | apply Kd.R_drew)); exact HO_5.out))) (Kd.R_lt (by (with_reducible repeat (first | apply Kd.R_alloc | apply Kd.R_drewN | apply Kd.R_drew)); exact HO243.out))) (below_size (by repeat (first | (with_reducible first | exact HB.out | apply below_alloc | apply pw_below_drewN | apply below_drew1) | exact HB.out)))); have n4_ := Aside0.mk (below_step (by repeat (first | (with_reducible first | exact HB.out | apply below_alloc | apply pw_below_drewN | apply below_drew1) | exact HB.out)) hb); clear HO_4; clear HO_5; clear HO243; clear HB; have HO_4 := n0_; have HO_5 := n1_; have HO243 := n2_; have HO246 := n3_; have HB := n4_; clear n0_ n1_ n2_ n3_ n4_; (try clear hb); (try clear hb2); (try clear hk); (try clear hi); (try clear ho0)) | (go_at_call 30; (with_reducible refine (poly_Trim.calls k2 _ _ x5_2 t244 _ ?side1 ?side2 A46.out).mono ?_); (case side1 => repeat (first | exact (Kd.R_reads' HO_5.out).2.2 | (with_reducible refine Kd.C_alloc ?_ _) | (with_reducible refine Kd.C_drewN ?_ _) | (with_reducible refine Kd.C_drew ?_))); (case side2 => exact (Kd.R_reads' HO_5.out).2.1); rintro e w48 ⟨v245, rfl, ho0, hb⟩; have n0_ := Aside0.mk (Kd.R_elder' (by (with_reducible repeat (first | apply Kd.R_alloc | apply Kd.R_drewN | apply Kd.R_drew)); exact HO_4.out) (Kd.R_base ho0) hb); have n1_ := Aside0.mk (Kd.R_elder' (by (with_reducible repeat (first | apply Kd.R_alloc | apply Kd.R_drewN | apply Kd.R_drew)); exact HO_5.out) (Kd.R_base ho0) hb); have n2_ := Aside0.mk (Kd.R_elder' (by (with_reducible repeat (first | apply Kd.R_alloc | apply Kd.R_drewN | apply Kd.R_drew)); exact HO243.out) (Kd.R_base ho0) hb); have n3_ := Aside0.mk (Kd.R_lower (Kd.R_new' (Kd.R_new' (Kd.R_new' ho0 (Kd.R_lt (by (with_reducible repeat (first | apply Kd.R_alloc | apply Kd.R_drewN | apply Kd.R_drew)); exact HO_4.out))) (Kd.R_lt (by (with_reducible repeat (first | apply Kd.R_alloc | apply Kd.R_drewN | apply Kd.R_drew)); exact HO_5.out))) (Kd.R_lt (by (with_reducible repeat (first | apply Kd.R_alloc | apply Kd.R_drewN | apply Kd.R_drew)); exact HO243.out))) (below_size (by repeat (first | (with_reducible first | exact HB.out | apply below_alloc | apply pw_below_drewN | apply below_drew1) | exact HB.out)))); have n4_ := Aside0.mk (below_step (by repeat (first | (with_reducible first | exact HB.out | apply below_alloc | apply pw_below_drewN | apply below_drew1) | exact HB.out)) hb); clear HO_4; clear HO_5; clear HO243; clear HB; have HO_4 := n0_; have HO_5 := n1_; have HO243 := n2_; have HO246 := n3_; have HB := n4_; clear n0_ n1_ n2_ n3_ n4_; (try clear hb); (try clear hb2); (try clear hk); (try clear hi); (try clear ho0)))
                        go_ret3
                        exact ⟨_, _, by first | rfl | (simp [errW_none, errW_some] <;> rfl) | (simp only [← hji12]; first | rfl | (simp [errW_none, errW_some] <;> rfl)) | (simp [*, errW_none, errW_some] <;> rfl), by (with_reducible repeat (first | apply Kd.R_alloc | apply Kd.R_drewN | apply Kd.R_drew)); exact Kd.R_mono HO243.out (fun _ hk => hk.2), by (with_reducible repeat (first | apply Kd.R_alloc | apply Kd.R_drewN | apply Kd.R_drew)); exact Kd.R_mono HO246.out (fun _ hk => hk.2), by repeat (first | (with_reducible first | exact HB.out | apply below_alloc | apply pw_below_drewN | apply below_drew1) | exact HB.out)⟩
                · rw [if_neg c14] at H
                  exact absurd H (by simp)
              · rw [if_neg c13] at H
                exact absurd H (by simp)
            · rw [if_neg c9] at H
              exact absurd H (by simp)
          · rw [if_neg c8] at H
            exact absurd H (by simp)

end Go.Proofs.Ytlifdpaamcdmfaa.PPolyDivides
