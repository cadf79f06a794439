-- PRINTED BY print.sh 35421559b90ae4d0a3588c463048766b98c2df88dd9212a6774a882060cdf62d: not written by this session
import Derived.Test.YtalfhpghmoikoaaPRootOrdersx0
import Derived.Test.YtalfhpghmoikoaaPRootOrdersx1
import Derived.Test.YtalfhpghmoikoaaPRootOrdersx2
namespace Go.Proofs.Ytalfhpghmoikoaa.PRootOrders
open Go.RowKit Go.Proofs.YtalfhpghmoikoaaW.PrintWords Go.Proofs.YtalfhpghmoikoaaW.PrintLast Go.Proofs.YtalfhpghmoikoaaW.PrintMore
attribute [local go_sem] max2_int min2_int max_two min_two max_three min_three max_four min_four   -- for this text's walks alone
set_option linter.unusedVariables false
set_option linter.unusedSimpArgs false

/-! ### abacistlaw03_RootOrders: function 11 -/
mutual
def abacistlaw03_RootOrders.j0 : Nat → Int → Int → Int → Int → Bool → Option (Bool)
  | 0, _, _, _, _, _ => none
  | k + 1, x0, x1, x2, x9, x33 => if x33 = true then (some false) else ((root_Log.f k x0 x1).bind fun bt154 => (if x9 ≥ 0 then (if x1 ≥ 0 then (if x1 ≤ 32 then (if (bt154.2 != (decide (x9 ≤ x1))) = true then (abacistlaw03_RootOrders.j1 k x0 x1 x2 bt154.1 bt154.2 true) else (if bt154.2 = true then (abacistlaw03_RootOrders.j1 k x0 x1 x2 bt154.1 bt154.2 false) else (abacistlaw03_RootOrders.j1 k x0 x1 x2 bt154.1 bt154.2 (bt154.1 != 0)))) else (if (bt154.2 != false) = true then (abacistlaw03_RootOrders.j1 k x0 x1 x2 bt154.1 bt154.2 true) else (if bt154.2 = true then (abacistlaw03_RootOrders.j1 k x0 x1 x2 bt154.1 bt154.2 false) else (abacistlaw03_RootOrders.j1 k x0 x1 x2 bt154.1 bt154.2 (bt154.1 != 0))))) else (if (bt154.2 != false) = true then (abacistlaw03_RootOrders.j1 k x0 x1 x2 bt154.1 bt154.2 true) else (if bt154.2 = true then (abacistlaw03_RootOrders.j1 k x0 x1 x2 bt154.1 bt154.2 false) else (abacistlaw03_RootOrders.j1 k x0 x1 x2 bt154.1 bt154.2 (bt154.1 != 0))))) else (if (bt154.2 != false) = true then (abacistlaw03_RootOrders.j1 k x0 x1 x2 bt154.1 bt154.2 true) else (if bt154.2 = true then (abacistlaw03_RootOrders.j1 k x0 x1 x2 bt154.1 bt154.2 false) else (abacistlaw03_RootOrders.j1 k x0 x1 x2 bt154.1 bt154.2 (bt154.1 != 0))))))
def abacistlaw03_RootOrders.j1 : Nat → Int → Int → Int → Int → Bool → Bool → Option (Bool)
  | 0, _, _, _, _, _, _ => none
  | k + 1, x0, x1, x2, x10, x11, x64 => if x64 = true then (some false) else (if x11 = true then (if x10 < 0 then (abacistlaw03_RootOrders.j2 k x1 x2 true) else (if 0 ≤ (IntKind.u64.wrap (x1)) then (if x10 ≥ (shl .i64 1 (IntKind.u64.wrap (x1))) then (abacistlaw03_RootOrders.j2 k x1 x2 true) else ((abacistref03_Root.f k x1).bind fun t156 => ((abacistref02_Pow.f k t156 (IntKind.u64.wrap (x10))).bind fun t157 => ((abacistref02_Of.f x0).bind fun t158 => (abacistlaw03_RootOrders.j2 k x1 x2 (t157 != t158)))))) else (none))) else (abacistlaw03_RootOrders.j2 k x1 x2 false))
def abacistlaw03_RootOrders.j2 : Nat → Int → Int → Bool → Option (Bool)
  | 0, _, _, _ => none
  | k + 1, x1, x2, x86 => if x86 = true then (some false) else (if x1 < 0 then (abacistlaw03_RootOrders.j3 k x1 x2 true) else (abacistlaw03_RootOrders.j3 k x1 x2 (decide (x1 > 32))))
def abacistlaw03_RootOrders.j3 : Nat → Int → Int → Bool → Option (Bool)
  | 0, _, _, _ => none
  | k + 1, x1, x2, x92 => if x92 = true then (some true) else (if 0 ≤ (IntKind.u64.wrap (x1)) then (if (shl .i64 1 (IntKind.u64.wrap (x1))) = 0 then (none) else ((abacistref03_Root.f k x1).bind fun t159 => ((abacistref02_Pow.f k t159 (IntKind.u64.wrap (Int.tmod (wrap64 (x2)) (shl .i64 1 (IntKind.u64.wrap (x1)))))).bind fun t160 => ((root_Log.f k t160 x1).bind fun bt161 => (if bt161.2 = true then (some (bt161.1 == (Int.tmod (wrap64 (x2)) (shl .i64 1 (IntKind.u64.wrap (x1)))))) else (some false)))))) else (none))
end
def abacistlaw03_RootOrders.f (k : Nat) (a0 : Int) (a1 : Int) (a2 : Int) : Option (Bool) := (abacistlaw03_awake.f k).bind fun t150 => (if t150 = true then ((root_OrderOf.f k a0).bind fun bt151 => ((abacistref03_OrderOf.f k a0).bind fun t153 => (if (bt151.2 != (decide (t153 ≥ 0))) = true then (abacistlaw03_RootOrders.j0 k a0 a1 a2 t153 true) else (abacistlaw03_RootOrders.j0 k a0 a1 a2 t153 (bt151.1 != (mx t153 0)))))) else (some false))
theorem abacistlaw03_RootOrders.mono_l : ∀ k, (∀ y0 y1 y2 y3 y4, LeO (abacistlaw03_RootOrders.j0 k y0 y1 y2 y3 y4) (abacistlaw03_RootOrders.j0 (k + 1) y0 y1 y2 y3 y4)) ∧ (∀ y0 y1 y2 y3 y4 y5, LeO (abacistlaw03_RootOrders.j1 k y0 y1 y2 y3 y4 y5) (abacistlaw03_RootOrders.j1 (k + 1) y0 y1 y2 y3 y4 y5)) ∧ (∀ y0 y1 y2, LeO (abacistlaw03_RootOrders.j2 k y0 y1 y2) (abacistlaw03_RootOrders.j2 (k + 1) y0 y1 y2)) ∧ (∀ y0 y1 y2, LeO (abacistlaw03_RootOrders.j3 k y0 y1 y2) (abacistlaw03_RootOrders.j3 (k + 1) y0 y1 y2))
  | 0 => ⟨fun _ _ _ _ _ r h => by simp [abacistlaw03_RootOrders.j0] at h, fun _ _ _ _ _ _ r h => by simp [abacistlaw03_RootOrders.j1] at h, fun _ _ _ r h => by simp [abacistlaw03_RootOrders.j2] at h, fun _ _ _ r h => by simp [abacistlaw03_RootOrders.j3] at h⟩
  | k + 1 => by
    obtain ⟨ih0, ih1, ih2, ih3⟩ := abacistlaw03_RootOrders.mono_l k
    refine ⟨?_, ?_, ?_, ?_⟩
    · intro y0 y1 y2 y3 y4
      unfold abacistlaw03_RootOrders.j0
      repeat' first
      | (with_reducible exact ih0 _ _ _ _ _)
      | (with_reducible exact ih1 _ _ _ _ _ _)
      | (with_reducible exact ih2 _ _ _)
      | (with_reducible exact ih3 _ _ _)
      | (with_reducible exact abacistlaw03_awake.mono _)
      | (with_reducible exact abacistref02_Pow.mono _ _ _)
      | (with_reducible exact abacistref03_OrderOf.mono _ _)
      | (with_reducible exact abacistref03_Root.mono _ _)
      | (with_reducible exact root_Log.mono _ _ _)
      | (with_reducible exact root_OrderOf.mono _ _)
      | (with_reducible exact LeO.refl _)
      | (with_reducible exact LeO.none _)
      | (with_reducible refine LeO.ite ?_ ?_)
      | (with_reducible refine LeO.bind ?_ (fun _ => ?_))
      | exact ih0 _ _ _ _ _
      | exact ih1 _ _ _ _ _ _
      | exact ih2 _ _ _
      | exact ih3 _ _ _
      | exact abacistlaw03_awake.mono _
      | exact abacistref02_Pow.mono _ _ _
      | exact abacistref03_OrderOf.mono _ _
      | exact abacistref03_Root.mono _ _
      | exact root_Log.mono _ _ _
      | exact root_OrderOf.mono _ _
      | exact LeO.none _
      | refine LeO.ite ?_ ?_
      | refine LeO.bind ?_ (fun _ => ?_)
    · intro y0 y1 y2 y3 y4 y5
      unfold abacistlaw03_RootOrders.j1
      repeat' first
      | (with_reducible exact ih0 _ _ _ _ _)
      | (with_reducible exact ih1 _ _ _ _ _ _)
      | (with_reducible exact ih2 _ _ _)
      | (with_reducible exact ih3 _ _ _)
      | (with_reducible exact abacistlaw03_awake.mono _)
      | (with_reducible exact abacistref02_Pow.mono _ _ _)
      | (with_reducible exact abacistref03_OrderOf.mono _ _)
      | (with_reducible exact abacistref03_Root.mono _ _)
      | (with_reducible exact root_Log.mono _ _ _)
      | (with_reducible exact root_OrderOf.mono _ _)
      | (with_reducible exact LeO.refl _)
      | (with_reducible exact LeO.none _)
      | (with_reducible refine LeO.ite ?_ ?_)
      | (with_reducible refine LeO.bind ?_ (fun _ => ?_))
      | exact ih0 _ _ _ _ _
      | exact ih1 _ _ _ _ _ _
      | exact ih2 _ _ _
      | exact ih3 _ _ _
      | exact abacistlaw03_awake.mono _
      | exact abacistref02_Pow.mono _ _ _
      | exact abacistref03_OrderOf.mono _ _
      | exact abacistref03_Root.mono _ _
      | exact root_Log.mono _ _ _
      | exact root_OrderOf.mono _ _
      | exact LeO.none _
      | refine LeO.ite ?_ ?_
      | refine LeO.bind ?_ (fun _ => ?_)
    · intro y0 y1 y2
      unfold abacistlaw03_RootOrders.j2
      repeat' first
      | (with_reducible exact ih0 _ _ _ _ _)
      | (with_reducible exact ih1 _ _ _ _ _ _)
      | (with_reducible exact ih2 _ _ _)
      | (with_reducible exact ih3 _ _ _)
      | (with_reducible exact abacistlaw03_awake.mono _)
      | (with_reducible exact abacistref02_Pow.mono _ _ _)
      | (with_reducible exact abacistref03_OrderOf.mono _ _)
      | (with_reducible exact abacistref03_Root.mono _ _)
      | (with_reducible exact root_Log.mono _ _ _)
      | (with_reducible exact root_OrderOf.mono _ _)
      | (with_reducible exact LeO.refl _)
      | (with_reducible exact LeO.none _)
      | (with_reducible refine LeO.ite ?_ ?_)
      | (with_reducible refine LeO.bind ?_ (fun _ => ?_))
      | exact ih0 _ _ _ _ _
      | exact ih1 _ _ _ _ _ _
      | exact ih2 _ _ _
      | exact ih3 _ _ _
      | exact abacistlaw03_awake.mono _
      | exact abacistref02_Pow.mono _ _ _
      | exact abacistref03_OrderOf.mono _ _
      | exact abacistref03_Root.mono _ _
      | exact root_Log.mono _ _ _
      | exact root_OrderOf.mono _ _
      | exact LeO.none _
      | refine LeO.ite ?_ ?_
      | refine LeO.bind ?_ (fun _ => ?_)
    · intro y0 y1 y2
      unfold abacistlaw03_RootOrders.j3
      repeat' first
      | (with_reducible exact ih0 _ _ _ _ _)
      | (with_reducible exact ih1 _ _ _ _ _ _)
      | (with_reducible exact ih2 _ _ _)
      | (with_reducible exact ih3 _ _ _)
      | (with_reducible exact abacistlaw03_awake.mono _)
      | (with_reducible exact abacistref02_Pow.mono _ _ _)
      | (with_reducible exact abacistref03_OrderOf.mono _ _)
      | (with_reducible exact abacistref03_Root.mono _ _)
      | (with_reducible exact root_Log.mono _ _ _)
      | (with_reducible exact root_OrderOf.mono _ _)
      | (with_reducible exact LeO.refl _)
      | (with_reducible exact LeO.none _)
      | (with_reducible refine LeO.ite ?_ ?_)
      | (with_reducible refine LeO.bind ?_ (fun _ => ?_))
      | exact ih0 _ _ _ _ _
      | exact ih1 _ _ _ _ _ _
      | exact ih2 _ _ _
      | exact ih3 _ _ _
      | exact abacistlaw03_awake.mono _
      | exact abacistref02_Pow.mono _ _ _
      | exact abacistref03_OrderOf.mono _ _
      | exact abacistref03_Root.mono _ _
      | exact root_Log.mono _ _ _
      | exact root_OrderOf.mono _ _
      | exact LeO.none _
      | refine LeO.ite ?_ ?_
      | refine LeO.bind ?_ (fun _ => ?_)
theorem abacistlaw03_RootOrders.mono : ∀ a0 a1 a2 k, LeO (abacistlaw03_RootOrders.f k a0 a1 a2) (abacistlaw03_RootOrders.f (k + 1) a0 a1 a2) := by
  intro a0 a1 a2 k
  obtain ⟨ih0, ih1, ih2, ih3⟩ := abacistlaw03_RootOrders.mono_l k
  unfold abacistlaw03_RootOrders.f
  repeat' first
      | (with_reducible exact ih0 _ _ _ _ _)
      | (with_reducible exact ih1 _ _ _ _ _ _)
      | (with_reducible exact ih2 _ _ _)
      | (with_reducible exact ih3 _ _ _)
      | (with_reducible exact abacistlaw03_awake.mono _)
      | (with_reducible exact abacistref02_Pow.mono _ _ _)
      | (with_reducible exact abacistref03_OrderOf.mono _ _)
      | (with_reducible exact abacistref03_Root.mono _ _)
      | (with_reducible exact root_Log.mono _ _ _)
      | (with_reducible exact root_OrderOf.mono _ _)
      | (with_reducible exact LeO.refl _)
      | (with_reducible exact LeO.none _)
      | (with_reducible refine LeO.ite ?_ ?_)
      | (with_reducible refine LeO.bind ?_ (fun _ => ?_))
      | exact ih0 _ _ _ _ _
      | exact ih1 _ _ _ _ _ _
      | exact ih2 _ _ _
      | exact ih3 _ _ _
      | exact abacistlaw03_awake.mono _
      | exact abacistref02_Pow.mono _ _ _
      | exact abacistref03_OrderOf.mono _ _
      | exact abacistref03_Root.mono _ _
      | exact root_Log.mono _ _ _
      | exact root_OrderOf.mono _ _
      | exact LeO.none _
      | refine LeO.ite ?_ ?_
      | refine LeO.bind ?_ (fun _ => ?_)
set_option maxHeartbeats 8000000 in
set_option maxRecDepth 100000 in
theorem abacistlaw03_RootOrders.calls (k : Nat) (a0 : Int) (a1 : Int) (a2 : Int) (r : Bool) (w : World) (h : abacistlaw03_RootOrders.f k a0 a1 a2 = some r) :
    Calls Try.prog 11 #[.int .u64 a0, .int .i64 a1, .int .u32 a2] w fun e w' => e = .returned (.bool r) ∧ Below w.heap.size w w' := by
  have HB := Aside0.mk (Below.refl w.heap.size w)
  have H : ((abacistlaw03_awake.f k).bind fun t150 => (if t150 = true then ((root_OrderOf.f k a0).bind fun bt151 => ((abacistref03_OrderOf.f k a0).bind fun t153 => (if (bt151.2 != (decide (t153 ≥ 0))) = true then (abacistlaw03_RootOrders.j0 k a0 a1 a2 t153 true) else (abacistlaw03_RootOrders.j0 k a0 a1 a2 t153 (bt151.1 != (mx t153 0)))))) else (some false))) = some r := h
  clear h
  replace H := Option.bind_eq_some_iff.mp H
  obtain ⟨t150, A40, H⟩ := H
  replace H : (if t150 = true then ((root_OrderOf.f k a0).bind fun bt151 => ((abacistref03_OrderOf.f k a0).bind fun t153 => (if (bt151.2 != (decide (t153 ≥ 0))) = true then (abacistlaw03_RootOrders.j0 k a0 a1 a2 t153 true) else (abacistlaw03_RootOrders.j0 k a0 a1 a2 t153 (bt151.1 != (mx t153 0)))))) else (some false)) = some r := H
  have A4 := Aside0.mk A40
  clear A40
  by_cases c5 : t150 = true
  · subst c5
    have H1 : ((root_OrderOf.f k a0).bind fun bt151 => ((abacistref03_OrderOf.f k a0).bind fun t153 => (if (bt151.2 != (decide (t153 ≥ 0))) = true then (abacistlaw03_RootOrders.j0 k a0 a1 a2 t153 true) else (abacistlaw03_RootOrders.j0 k a0 a1 a2 t153 (bt151.1 != (mx t153 0)))))) = some r := by rw [if_pos rfl] at H; exact H
    clear H
    have H := H1
    clear H1
    replace H := Option.bind_eq_some_iff.mp H
    obtain ⟨⟨t151, t152⟩, A60, H⟩ := H
    replace H : ((abacistref03_OrderOf.f k a0).bind fun t153 => (if (t152 != (decide (t153 ≥ 0))) = true then (abacistlaw03_RootOrders.j0 k a0 a1 a2 t153 true) else (abacistlaw03_RootOrders.j0 k a0 a1 a2 t153 (t151 != (mx t153 0))))) = some r := H
    have A6 := Aside0.mk A60
    clear A60
    replace H := Option.bind_eq_some_iff.mp H
    obtain ⟨t153, A70, H⟩ := H
    replace H : (if (t152 != (decide (t153 ≥ 0))) = true then (abacistlaw03_RootOrders.j0 k a0 a1 a2 t153 true) else (abacistlaw03_RootOrders.j0 k a0 a1 a2 t153 (t151 != (mx t153 0)))) = some r := H
    have A7 := Aside0.mk A70
    clear A70
    have HC8 := Aside0.mk H
    clear H
    go_enter Try.func11, Try.ntmps11
    go_upto_region 5 with (first | ((with_reducible refine gate_callee (f := 25) rfl ?_); refine goesL_ (some 15) rfl rfl Try.func25 (by kernel_rfl) rfl #[] rfl (by (try simp only [List.map_toArray, List.map_cons, List.map_nil]); first | done | rfl | (simp only [List.length_drop, List.length_take]; rfl)) ?_; (with_reducible refine (abacistlaw03_awake.calls k  true _ A4.out).mono ?_); rintro e w9 ⟨rfl, hb⟩; refine ⟨_, rfl, ?_⟩; have n0_ := Aside0.mk (below_step (by repeat (first | (with_reducible first | exact HB.out | apply below_alloc | apply pw_below_drewN | apply below_drew1) | exact HB.out)) hb); clear HB; have HB := n0_; clear n0_; (try clear hb); (try clear hb2); (try clear hk); (try clear hi)) | ((with_reducible refine gate_callee (f := 35) rfl ?_); refine goesL_ (some 19) rfl rfl Try.func35 (by kernel_rfl) rfl #[.int .u64 a0] rfl (by (try simp only [List.map_toArray, List.map_cons, List.map_nil]); first | done | rfl | (simp only [List.length_drop, List.length_take]; rfl)) ?_; (with_reducible refine (root_OrderOf.calls k a0 t151 t152 _ A6.out).mono ?_); rintro e w10 ⟨rfl, hb⟩; refine ⟨_, rfl, ?_⟩; have n0_ := Aside0.mk (below_step (by repeat (first | (with_reducible first | exact HB.out | apply below_alloc | apply pw_below_drewN | apply below_drew1) | exact HB.out)) hb); clear HB; have HB := n0_; clear n0_; (try clear hb); (try clear hb2); (try clear hk); (try clear hi)) | ((with_reducible refine gate_callee (f := 36) rfl ?_); refine goesL_ (some 23) rfl rfl Try.func36 (by kernel_rfl) rfl #[.int .u64 a0] rfl (by (try simp only [List.map_toArray, List.map_cons, List.map_nil]); first | done | rfl | (simp only [List.length_drop, List.length_take]; rfl)) ?_; (with_reducible refine (abacistref03_OrderOf.calls k a0 t153 _ A7.out).mono ?_); rintro e w' ⟨rfl, ⟨nd, rfl⟩⟩; refine ⟨_, rfl, ?_⟩))
    (try simp only [Act.put, List.setIfInBounds_toArray, List.set_cons_zero, List.set_cons_succ])
    go_cut [33] (fun v33 wc => ∃ (kq : Nat) (x33_7 : Bool), v33 = .bool x33_7 ∧ Aside0 (abacistlaw03_RootOrders.j0 kq a0 a1 a2 t153 x33_7 = some r) ∧ Aside0 (kq ≤ k) ∧ Aside0 (Below w.heap.size w wc))
    case first =>
      have H := HC8.out
      clear HC8
      by_cases c11 : (t152 != (decide (t153 ≥ 0))) = true
      · rw [if_pos c11] at H
        have c11b0 : (t152 != (decide (t153 ≥ 0))) = true := c11
        (try (have c11b1 : decide (t152 = (decide (t153 ≥ 0))) = false := by simpa using c11))
        (try (have c11b2 : (t152 == (decide (t153 ≥ 0))) = false := by simpa using c11))
        (try (have c11b3 : ¬ (t152 = (decide (t153 ≥ 0))) := by simpa using c11))
        clear c11
        (first | rw [c11b0] | (simp only [i64_w, i32_w]; rw [c11b0]) | skip)
        have H' := Aside0.mk H
        clear H
        go_wp2
        go_meet
        case rel => exact ⟨_, (true), (by first | rfl | (simp; done) | (simp [*]; done)), H', ⟨by first | omega | exact Nat.le_refl _⟩, ⟨by repeat (first | (with_reducible first | exact HB.out | apply below_alloc | apply pw_below_drewN | apply below_drew1) | exact HB.out)⟩⟩
      · rw [if_neg c11] at H
        have c11b0 : (t152 != (decide (t153 ≥ 0))) = false := by simpa using c11
        (try (have c11b1 : decide (t152 = (decide (t153 ≥ 0))) = true := by simpa using c11))
        (try (have c11b2 : (t152 == (decide (t153 ≥ 0))) = true := by simpa using c11))
        clear c11
        (first | rw [c11b0] | (simp only [i64_w, i32_w]; rw [c11b0]) | skip)
        obtain ⟨ji12, hji12⟩ : ∃ j_ : Int, (mx t153 0) = j_ := ⟨_, rfl⟩
        replace H : (abacistlaw03_RootOrders.j0 k a0 a1 a2 t153 (t151 != (ji12))) = some r := by first | (rw [hji12] at H; exact H) | (simp only [hji12] at H ⊢; exact H)
        (try (have hji12l : 0 ≤ ji12 := by (rw [← hji12]; unfold mx; (repeat' split) <;> omega)))
        (try (have hji12m : 0 ≤ ji12 := by omega))
        have hji12_ : (if t153 < 0 then 0 else t153) = ji12 := hji12
        have H' := Aside0.mk H
        clear H
        go_wp2
        go_meet
        case rel => exact ⟨_, ((t151 != (ji12))), (by first | rfl | (simp; done) | (simp only [← hji12] <;> (first | rfl | simp)) | (simp [*]; done)), H', ⟨by first | omega | exact Nat.le_refl _⟩, ⟨by repeat (first | (with_reducible first | exact HB.out | apply below_alloc | apply pw_below_drewN | apply below_drew1) | exact HB.out)⟩⟩
    case rest =>
      clear HC8
      try clear c1
      try clear c2
      try clear p2
      try clear c3
      try clear c5
      try clear c11
      try clear c11b0
      try clear c11b1
      try clear c11b2
      obtain ⟨kq, x33_7, rfl, HA, HJ7, HB⟩ := hcut
      cases kq with
      | zero => exact absurd HA.out (by simp [abacistlaw03_RootOrders.j0])
      | succ kj7 =>
        have H := HA.out
        clear HA
        simp only [abacistlaw03_RootOrders.j0] at H
        by_cases c13 : x33_7 = true
        · subst c13
          have H1 : (some false) = some r := by rw [if_pos rfl] at H; exact H
          clear H
          have H := H1
          clear H1
          obtain rfl := Option.some.inj H
          go_wp2
          go_ret
          exact ⟨by first | rfl | (simp [errW_none, errW_some] <;> rfl) | (simp [*, errW_none, errW_some] <;> rfl), by repeat (first | (with_reducible first | exact HB.out | apply below_alloc | apply pw_below_drewN | apply below_drew1) | exact HB.out)⟩
        · replace c13 := Bool.eq_false_iff.mpr c13
          subst c13
          have H1 : ((root_Log.f kj7 a0 a1).bind fun bt154 => (if t153 ≥ 0 then (if a1 ≥ 0 then (if a1 ≤ 32 then (if (bt154.2 != (decide (t153 ≤ a1))) = true then (abacistlaw03_RootOrders.j1 kj7 a0 a1 a2 bt154.1 bt154.2 true) else (if bt154.2 = true then (abacistlaw03_RootOrders.j1 kj7 a0 a1 a2 bt154.1 bt154.2 false) else (abacistlaw03_RootOrders.j1 kj7 a0 a1 a2 bt154.1 bt154.2 (bt154.1 != 0)))) else (if (bt154.2 != false) = true then (abacistlaw03_RootOrders.j1 kj7 a0 a1 a2 bt154.1 bt154.2 true) else (if bt154.2 = true then (abacistlaw03_RootOrders.j1 kj7 a0 a1 a2 bt154.1 bt154.2 false) else (abacistlaw03_RootOrders.j1 kj7 a0 a1 a2 bt154.1 bt154.2 (bt154.1 != 0))))) else (if (bt154.2 != false) = true then (abacistlaw03_RootOrders.j1 kj7 a0 a1 a2 bt154.1 bt154.2 true) else (if bt154.2 = true then (abacistlaw03_RootOrders.j1 kj7 a0 a1 a2 bt154.1 bt154.2 false) else (abacistlaw03_RootOrders.j1 kj7 a0 a1 a2 bt154.1 bt154.2 (bt154.1 != 0))))) else (if (bt154.2 != false) = true then (abacistlaw03_RootOrders.j1 kj7 a0 a1 a2 bt154.1 bt154.2 true) else (if bt154.2 = true then (abacistlaw03_RootOrders.j1 kj7 a0 a1 a2 bt154.1 bt154.2 false) else (abacistlaw03_RootOrders.j1 kj7 a0 a1 a2 bt154.1 bt154.2 (bt154.1 != 0)))))) = some r := by rw [if_neg (show ¬ (false = true) by decide)] at H; exact H
          clear H
          have H := H1
          clear H1
          replace H := Option.bind_eq_some_iff.mp H
          obtain ⟨⟨t154, t155⟩, A140, H⟩ := H
          replace H : (if t153 ≥ 0 then (if a1 ≥ 0 then (if a1 ≤ 32 then (if (t155 != (decide (t153 ≤ a1))) = true then (abacistlaw03_RootOrders.j1 kj7 a0 a1 a2 t154 t155 true) else (if t155 = true then (abacistlaw03_RootOrders.j1 kj7 a0 a1 a2 t154 t155 false) else (abacistlaw03_RootOrders.j1 kj7 a0 a1 a2 t154 t155 (t154 != 0)))) else (if (t155 != false) = true then (abacistlaw03_RootOrders.j1 kj7 a0 a1 a2 t154 t155 true) else (if t155 = true then (abacistlaw03_RootOrders.j1 kj7 a0 a1 a2 t154 t155 false) else (abacistlaw03_RootOrders.j1 kj7 a0 a1 a2 t154 t155 (t154 != 0))))) else (if (t155 != false) = true then (abacistlaw03_RootOrders.j1 kj7 a0 a1 a2 t154 t155 true) else (if t155 = true then (abacistlaw03_RootOrders.j1 kj7 a0 a1 a2 t154 t155 false) else (abacistlaw03_RootOrders.j1 kj7 a0 a1 a2 t154 t155 (t154 != 0))))) else (if (t155 != false) = true then (abacistlaw03_RootOrders.j1 kj7 a0 a1 a2 t154 t155 true) else (if t155 = true then (abacistlaw03_RootOrders.j1 kj7 a0 a1 a2 t154 t155 false) else (abacistlaw03_RootOrders.j1 kj7 a0 a1 a2 t154 t155 (t154 != 0))))) = some r := H
          have A14 := Aside0.mk A140
          clear A140
          have HC15 := Aside0.mk H
          clear H
          go_upto_region 8 with (first | ((with_reducible refine gate_callee (f := 37) rfl ?_); refine goesL_ (some 37) rfl rfl Try.func37 (by kernel_rfl) rfl #[.int .u64 a0, .int .i64 a1] rfl (by (try simp only [List.map_toArray, List.map_cons, List.map_nil]); first | done | rfl | (simp only [List.length_drop, List.length_take]; rfl)) ?_; (with_reducible refine (root_Log.calls kj7 a0 a1 t154 t155 _ A14.out).mono ?_); rintro e w16 ⟨rfl, hb⟩; refine ⟨_, rfl, ?_⟩; have n0_ := Aside0.mk (below_step (by repeat (first | (with_reducible first | exact HB.out | apply below_alloc | apply pw_below_drewN | apply below_drew1) | exact HB.out)) hb); clear HB; have HB := n0_; clear n0_; (try clear hb); (try clear hb2); (try clear hk); (try clear hi)))
          (try simp only [Act.put, List.setIfInBounds_toArray, List.set_cons_zero, List.set_cons_succ])
          go_cut [64] (fun v64 wc => ∃ (kq : Nat) (x64_14 : Bool), v64 = .bool x64_14 ∧ Aside0 (abacistlaw03_RootOrders.j1 kq a0 a1 a2 t154 t155 x64_14 = some r) ∧ Aside0 (kq ≤ kj7) ∧ Aside0 (Below w.heap.size w wc))
          case first =>
            have H := HC15.out
            clear HC15
            by_cases c17 : t153 ≥ 0
            · rw [if_pos c17] at H
              have c17b0 : decide (0 ≤ t153) = true := decide_eq_true c17
              clear c17
              (first | rw [c17b0] | (simp only [i64_w, i32_w]; rw [c17b0]) | skip)
              by_cases c18 : a1 ≥ 0
              · rw [if_pos c18] at H
                have c18b0 : decide (0 ≤ a1) = true := decide_eq_true c18
                clear c18
                by_cases c19 : a1 ≤ 32
                · rw [if_pos c19] at H
                  have c19b0 : decide (a1 ≤ 32) = true := decide_eq_true c19
                  clear c19
                  by_cases c20 : (t155 != (decide (t153 ≤ a1))) = true
                  · rw [if_pos c20] at H
                    have c20b0 : (t155 != (decide (t153 ≤ a1))) = true := c20
                    (try (have c20b1 : decide (t155 = (decide (t153 ≤ a1))) = false := by simpa using c20))
                    (try (have c20b2 : (t155 == (decide (t153 ≤ a1))) = false := by simpa using c20))
                    (try (have c20b3 : ¬ (t155 = (decide (t153 ≤ a1))) := by simpa using c20))
                    clear c20
                    have H' := Aside0.mk H
                    clear H
                    go_wp2
                    go_meet
                    case rel => exact ⟨_, (true), (by first | rfl | (simp; done) | (simp [*]; done)), H', ⟨by have := HJ7.out; first | omega | exact Nat.le_refl _⟩, ⟨by repeat (first | (with_reducible first | exact HB.out | apply below_alloc | apply pw_below_drewN | apply below_drew1) | exact HB.out)⟩⟩
                  · rw [if_neg c20] at H
                    have c20b0 : (t155 != (decide (t153 ≤ a1))) = false := by simpa using c20
                    (try (have c20b1 : decide (t155 = (decide (t153 ≤ a1))) = true := by simpa using c20))
                    (try (have c20b2 : (t155 == (decide (t153 ≤ a1))) = true := by simpa using c20))
                    clear c20
                    by_cases c21 : t155 = true
                    · subst c21
                      have H1 : (abacistlaw03_RootOrders.j1 kj7 a0 a1 a2 t154 true false) = some r := by rw [if_pos rfl] at H; exact H
                      clear H
                      have H := H1
                      clear H1
                      have H' := Aside0.mk H
                      clear H
                      go_wp2
                      go_meet
                      case rel => exact ⟨_, (false), (by first | rfl | (simp; done) | (simp [*]; done)), H', ⟨by have := HJ7.out; first | omega | exact Nat.le_refl _⟩, ⟨by repeat (first | (with_reducible first | exact HB.out | apply below_alloc | apply pw_below_drewN | apply below_drew1) | exact HB.out)⟩⟩
                    · replace c21 := Bool.eq_false_iff.mpr c21
                      subst c21
                      have H1 : (abacistlaw03_RootOrders.j1 kj7 a0 a1 a2 t154 false (t154 != 0)) = some r := by rw [if_neg (show ¬ (false = true) by decide)] at H; exact H
                      clear H
                      have H := H1
                      clear H1
                      have H' := Aside0.mk H
                      clear H
                      go_wp2
                      go_meet
                      case rel => exact ⟨_, ((t154 != 0)), (by first | rfl | (simp; done) | (simp [*]; done)), H', ⟨by have := HJ7.out; first | omega | exact Nat.le_refl _⟩, ⟨by repeat (first | (with_reducible first | exact HB.out | apply below_alloc | apply pw_below_drewN | apply below_drew1) | exact HB.out)⟩⟩
                · rw [if_neg c19] at H
                  have c19b0 : decide (a1 ≤ 32) = false := decide_eq_false c19
                  clear c19
                  by_cases c22 : (t155 != false) = true
                  · rw [if_pos c22] at H
                    have c22b0 : (t155 != false) = true := c22
                    (try (have c22b1 : decide (t155 = false) = false := by simpa using c22))
                    (try (have c22b2 : (t155 == false) = false := by simpa using c22))
                    (try (have c22b3 : ¬ (t155 = false) := by simpa using c22))
                    clear c22
                    have H' := Aside0.mk H
                    clear H
                    go_wp2
                    go_meet
                    case rel => exact ⟨_, (true), (by first | rfl | (simp; done) | (simp [*]; done)), H', ⟨by have := HJ7.out; first | omega | exact Nat.le_refl _⟩, ⟨by repeat (first | (with_reducible first | exact HB.out | apply below_alloc | apply pw_below_drewN | apply below_drew1) | exact HB.out)⟩⟩
                  · rw [if_neg c22] at H
                    have c22b0 : (t155 != false) = false := by simpa using c22
                    (try (have c22b1 : decide (t155 = false) = true := by simpa using c22))
                    (try (have c22b2 : (t155 == false) = true := by simpa using c22))
                    clear c22
                    by_cases c23 : t155 = true
                    · subst c23
                      have H1 : (abacistlaw03_RootOrders.j1 kj7 a0 a1 a2 t154 true false) = some r := by rw [if_pos rfl] at H; exact H
                      clear H
                      have H := H1
                      clear H1
                      have H' := Aside0.mk H
                      clear H
                      go_wp2
                      go_meet
                      case rel => exact ⟨_, (false), (by first | rfl | (simp; done) | (simp [*]; done)), H', ⟨by have := HJ7.out; first | omega | exact Nat.le_refl _⟩, ⟨by repeat (first | (with_reducible first | exact HB.out | apply below_alloc | apply pw_below_drewN | apply below_drew1) | exact HB.out)⟩⟩
                    · replace c23 := Bool.eq_false_iff.mpr c23
                      subst c23
                      have H1 : (abacistlaw03_RootOrders.j1 kj7 a0 a1 a2 t154 false (t154 != 0)) = some r := by rw [if_neg (show ¬ (false = true) by decide)] at H; exact H
                      clear H
                      have H := H1
                      clear H1
                      have H' := Aside0.mk H
                      clear H
                      go_wp2
                      go_meet
                      case rel => exact ⟨_, ((t154 != 0)), (by first | rfl | (simp; done) | (simp [*]; done)), H', ⟨by have := HJ7.out; first | omega | exact Nat.le_refl _⟩, ⟨by repeat (first | (with_reducible first | exact HB.out | apply below_alloc | apply pw_below_drewN | apply below_drew1) | exact HB.out)⟩⟩
              · rw [if_neg c18] at H
                have c18b0 : decide (0 ≤ a1) = false := decide_eq_false c18
                clear c18
                by_cases c24 : (t155 != false) = true
                · rw [if_pos c24] at H
                  have c24b0 : (t155 != false) = true := c24
                  (try (have c24b1 : decide (t155 = false) = false := by simpa using c24))
                  (try (have c24b2 : (t155 == false) = false := by simpa using c24))
                  (try (have c24b3 : ¬ (t155 = false) := by simpa using c24))
                  clear c24
                  have H' := Aside0.mk H
                  clear H
                  go_wp2
                  go_meet
                  case rel => exact ⟨_, (true), (by first | rfl | (simp; done) | (simp [*]; done)), H', ⟨by have := HJ7.out; first | omega | exact Nat.le_refl _⟩, ⟨by repeat (first | (with_reducible first | exact HB.out | apply below_alloc | apply pw_below_drewN | apply below_drew1) | exact HB.out)⟩⟩
                · rw [if_neg c24] at H
                  have c24b0 : (t155 != false) = false := by simpa using c24
                  (try (have c24b1 : decide (t155 = false) = true := by simpa using c24))
                  (try (have c24b2 : (t155 == false) = true := by simpa using c24))
                  clear c24
                  by_cases c25 : t155 = true
                  · subst c25
                    have H1 : (abacistlaw03_RootOrders.j1 kj7 a0 a1 a2 t154 true false) = some r := by rw [if_pos rfl] at H; exact H
                    clear H
                    have H := H1
                    clear H1
                    have H' := Aside0.mk H
                    clear H
                    go_wp2
                    go_meet
                    case rel => exact ⟨_, (false), (by first | rfl | (simp; done) | (simp [*]; done)), H', ⟨by have := HJ7.out; first | omega | exact Nat.le_refl _⟩, ⟨by repeat (first | (with_reducible first | exact HB.out | apply below_alloc | apply pw_below_drewN | apply below_drew1) | exact HB.out)⟩⟩
                  · replace c25 := Bool.eq_false_iff.mpr c25
                    subst c25
                    have H1 : (abacistlaw03_RootOrders.j1 kj7 a0 a1 a2 t154 false (t154 != 0)) = some r := by rw [if_neg (show ¬ (false = true) by decide)] at H; exact H
                    clear H
                    have H := H1
                    clear H1
                    have H' := Aside0.mk H
                    clear H
                    go_wp2
                    go_meet
                    case rel => exact ⟨_, ((t154 != 0)), (by first | rfl | (simp; done) | (simp [*]; done)), H', ⟨by have := HJ7.out; first | omega | exact Nat.le_refl _⟩, ⟨by repeat (first | (with_reducible first | exact HB.out | apply below_alloc | apply pw_below_drewN | apply below_drew1) | exact HB.out)⟩⟩
            · rw [if_neg c17] at H
              have c17b0 : decide (0 ≤ t153) = false := decide_eq_false c17
              clear c17
              (first | rw [c17b0] | (simp only [i64_w, i32_w]; rw [c17b0]) | skip)
              by_cases c26 : (t155 != false) = true
              · rw [if_pos c26] at H
                have c26b0 : (t155 != false) = true := c26
                (try (have c26b1 : decide (t155 = false) = false := by simpa using c26))
                (try (have c26b2 : (t155 == false) = false := by simpa using c26))
                (try (have c26b3 : ¬ (t155 = false) := by simpa using c26))
                clear c26
                have H' := Aside0.mk H
                clear H
                go_wp2
                go_meet
                case rel => exact ⟨_, (true), (by first | rfl | (simp; done) | (simp [*]; done)), H', ⟨by have := HJ7.out; first | omega | exact Nat.le_refl _⟩, ⟨by repeat (first | (with_reducible first | exact HB.out | apply below_alloc | apply pw_below_drewN | apply below_drew1) | exact HB.out)⟩⟩
              · rw [if_neg c26] at H
                have c26b0 : (t155 != false) = false := by simpa using c26
                (try (have c26b1 : decide (t155 = false) = true := by simpa using c26))
                (try (have c26b2 : (t155 == false) = true := by simpa using c26))
                clear c26
                by_cases c27 : t155 = true
                · subst c27
                  have H1 : (abacistlaw03_RootOrders.j1 kj7 a0 a1 a2 t154 true false) = some r := by rw [if_pos rfl] at H; exact H
                  clear H
                  have H := H1
                  clear H1
                  have H' := Aside0.mk H
                  clear H
                  go_wp2
                  go_meet
                  case rel => exact ⟨_, (false), (by first | rfl | (simp; done) | (simp [*]; done)), H', ⟨by have := HJ7.out; first | omega | exact Nat.le_refl _⟩, ⟨by repeat (first | (with_reducible first | exact HB.out | apply below_alloc | apply pw_below_drewN | apply below_drew1) | exact HB.out)⟩⟩
                · replace c27 := Bool.eq_false_iff.mpr c27
                  subst c27
                  have H1 : (abacistlaw03_RootOrders.j1 kj7 a0 a1 a2 t154 false (t154 != 0)) = some r := by rw [if_neg (show ¬ (false = true) by decide)] at H; exact H
                  clear H
                  have H := H1
                  clear H1
                  have H' := Aside0.mk H
                  clear H
                  go_wp2
                  go_meet
                  case rel => exact ⟨_, ((t154 != 0)), (by first | rfl | (simp; done) | (simp [*]; done)), H', ⟨by have := HJ7.out; first | omega | exact Nat.le_refl _⟩, ⟨by repeat (first | (with_reducible first | exact HB.out | apply below_alloc | apply pw_below_drewN | apply below_drew1) | exact HB.out)⟩⟩
          case rest =>
            clear HC15
            try clear c1
            try clear c2
            try clear p2
            try clear c3
            try clear c5
            try clear c11
            try clear c11b0
            try clear c11b1
            try clear c11b2
            try clear c13
            try clear c17
            try clear c17b0
            try clear c18
            try clear c18b0
            try clear c19
            try clear c19b0
            try clear c20
            try clear c20b0
            try clear c20b1
            try clear c20b2
            try clear c21
            try clear c22
            try clear c22b0
            try clear c22b1
            try clear c22b2
            try clear c23
            try clear c24
            try clear c24b0
            try clear c24b1
            try clear c24b2
            try clear c25
            try clear c26
            try clear c26b0
            try clear c26b1
            try clear c26b2
            try clear c27
            try clear p2
            obtain ⟨kq, x64_14, rfl, HA, HJ14, HB⟩ := hcut
            cases kq with
            | zero => exact absurd HA.out (by simp [abacistlaw03_RootOrders.j1])
            | succ kj14 =>
              have H := HA.out
              clear HA
              simp only [abacistlaw03_RootOrders.j1] at H
              by_cases c28 : x64_14 = true
              · subst c28
                have H1 : (some false) = some r := by rw [if_pos rfl] at H; exact H
                clear H
                have H := H1
                clear H1
                obtain rfl := Option.some.inj H
                go_wp2
                go_ret
                exact ⟨by first | rfl | (simp [errW_none, errW_some] <;> rfl) | (simp [*, errW_none, errW_some] <;> rfl), by repeat (first | (with_reducible first | exact HB.out | apply below_alloc | apply pw_below_drewN | apply below_drew1) | exact HB.out)⟩
              · replace c28 := Bool.eq_false_iff.mpr c28
                subst c28
                have H1 : (if t155 = true then (if t154 < 0 then (abacistlaw03_RootOrders.j2 kj14 a1 a2 true) else (if 0 ≤ (IntKind.u64.wrap (a1)) then (if t154 ≥ (shl .i64 1 (IntKind.u64.wrap (a1))) then (abacistlaw03_RootOrders.j2 kj14 a1 a2 true) else ((abacistref03_Root.f kj14 a1).bind fun t156 => ((abacistref02_Pow.f kj14 t156 (IntKind.u64.wrap (t154))).bind fun t157 => ((abacistref02_Of.f a0).bind fun t158 => (abacistlaw03_RootOrders.j2 kj14 a1 a2 (t157 != t158)))))) else (none))) else (abacistlaw03_RootOrders.j2 kj14 a1 a2 false)) = some r := by rw [if_neg (show ¬ (false = true) by decide)] at H; exact H
                clear H
                have H := H1
                clear H1
                have HC29 := Aside0.mk H
                clear H
                go_upto_region 10 with (fail)
                go_cut [86] (fun v86 wc => ∃ (kq : Nat) (x86_28 : Bool), v86 = .bool x86_28 ∧ Aside0 (abacistlaw03_RootOrders.j2 kq a1 a2 x86_28 = some r) ∧ Aside0 (kq ≤ kj14) ∧ Aside0 (Below w.heap.size w wc))
                case first =>
                  have H := HC29.out
                  clear HC29
                  by_cases c30 : t155 = true
                  · subst c30
                    have H1 : (if t154 < 0 then (abacistlaw03_RootOrders.j2 kj14 a1 a2 true) else (if 0 ≤ (IntKind.u64.wrap (a1)) then (if t154 ≥ (shl .i64 1 (IntKind.u64.wrap (a1))) then (abacistlaw03_RootOrders.j2 kj14 a1 a2 true) else ((abacistref03_Root.f kj14 a1).bind fun t156 => ((abacistref02_Pow.f kj14 t156 (IntKind.u64.wrap (t154))).bind fun t157 => ((abacistref02_Of.f a0).bind fun t158 => (abacistlaw03_RootOrders.j2 kj14 a1 a2 (t157 != t158)))))) else (none))) = some r := by rw [if_pos rfl] at H; exact H
                    clear H
                    have H := H1
                    clear H1
                    by_cases c31 : t154 < 0
                    · rw [if_pos c31] at H
                      have c31b0 : decide (t154 < 0) = true := decide_eq_true c31
                      clear c31
                      (first | rw [c31b0] | (simp only [i64_w, i32_w]; rw [c31b0]) | skip)
                      have H' := Aside0.mk H
                      clear H
                      go_wp2
                      go_meet
                      case rel => exact ⟨_, (true), (by first | rfl | (simp; done) | (simp [*]; done)), H', ⟨by have := HJ7.out; have := HJ14.out; first | omega | exact Nat.le_refl _⟩, ⟨by repeat (first | (with_reducible first | exact HB.out | apply below_alloc | apply pw_below_drewN | apply below_drew1) | exact HB.out)⟩⟩
                    · rw [if_neg c31] at H
                      have c31b0 : decide (t154 < 0) = false := decide_eq_false c31
                      clear c31
                      (first | rw [c31b0] | (simp only [i64_w, i32_w]; rw [c31b0]) | skip)
                      obtain ⟨ji32, hji32⟩ : ∃ j_ : Int, (IntKind.u64.wrap (a1)) = j_ := ⟨_, rfl⟩
                      replace H : (if 0 ≤ (ji32) then (if t154 ≥ (shl .i64 1 (ji32)) then (abacistlaw03_RootOrders.j2 kj14 a1 a2 true) else ((abacistref03_Root.f kj14 a1).bind fun t156 => ((abacistref02_Pow.f kj14 t156 (IntKind.u64.wrap (t154))).bind fun t157 => ((abacistref02_Of.f a0).bind fun t158 => (abacistlaw03_RootOrders.j2 kj14 a1 a2 (t157 != t158)))))) else (none)) = some r := by first | (rw [hji32] at H; exact H) | (simp only [hji32] at H ⊢; exact H)
                      by_cases c33 : 0 ≤ (ji32)
                      · rw [if_pos c33] at H
                        have c33b0 := eq_true c33
                        have c33b1 : decide (0 ≤ (ji32)) = true := decide_eq_true c33
                        clear c33
                        obtain ⟨ji34, hji34⟩ : ∃ j_ : Int, (shl .i64 1 (ji32)) = j_ := ⟨_, rfl⟩
                        replace H : (if t154 ≥ (ji34) then (abacistlaw03_RootOrders.j2 kj14 a1 a2 true) else ((abacistref03_Root.f kj14 a1).bind fun t156 => ((abacistref02_Pow.f kj14 t156 (IntKind.u64.wrap (t154))).bind fun t157 => ((abacistref02_Of.f a0).bind fun t158 => (abacistlaw03_RootOrders.j2 kj14 a1 a2 (t157 != t158)))))) = some r := by first | (rw [hji34] at H; exact H) | (simp only [hji34] at H ⊢; exact H)
                        have hji34_ : (IntKind.i64.wrap (1 * 2 ^ min (ji32).toNat 64)) = ji34 := hji34
                        have hji34z : (ji32) ≤ 64 → (IntKind.i64.wrap (1 * 2 ^ (ji32).toNat)) = ji34 := shl_small hji34
                        have hji34u : (IntKind.i64.wrap (2 ^ min (ji32).toNat 64)) = ji34 := by have h_ := hji34_; rw [Int.one_mul] at h_; exact h_
                        have hji34v : (ji32) ≤ 64 → (IntKind.i64.wrap (2 ^ (ji32).toNat)) = ji34 := fun hle_ => by have h_ := hji34z hle_; rw [Int.one_mul] at h_; exact h_
                        have hji34y : (wrap64 (1 * 2 ^ min (ji32).toNat 64)) = ji34 := (i64_w _).symm.trans hji34_
                        have hji34x : (ji32) ≤ 64 → (wrap64 (1 * 2 ^ (ji32).toNat)) = ji34 := fun h_ => (i64_w _).symm.trans (hji34z h_)
                        by_cases c35 : t154 ≥ (ji34)
                        · rw [if_pos c35] at H
                          have c35b0 : decide ((ji34) ≤ t154) = true := decide_eq_true c35
                          clear c35
                          have H' := Aside0.mk H
                          clear H
                          go_wp2
                          go_meet
                          case rel => exact ⟨_, (true), (by first | rfl | (simp; done) | (simp [*]; done)), H', ⟨by have := HJ7.out; have := HJ14.out; first | omega | exact Nat.le_refl _⟩, ⟨by repeat (first | (with_reducible first | exact HB.out | apply below_alloc | apply pw_below_drewN | apply below_drew1) | exact HB.out)⟩⟩
                        · rw [if_neg c35] at H
                          have c35b0 : decide ((ji34) ≤ t154) = false := decide_eq_false c35
                          clear c35
                          replace H := Option.bind_eq_some_iff.mp H
                          obtain ⟨t156, A360, H⟩ := H
                          replace H : ((abacistref02_Pow.f kj14 t156 (IntKind.u64.wrap (t154))).bind fun t157 => ((abacistref02_Of.f a0).bind fun t158 => (abacistlaw03_RootOrders.j2 kj14 a1 a2 (t157 != t158)))) = some r := H
                          have A36 := Aside0.mk A360
                          clear A360
                          replace H := Option.bind_eq_some_iff.mp H
                          obtain ⟨t157, A370, H⟩ := H
                          replace H : ((abacistref02_Of.f a0).bind fun t158 => (abacistlaw03_RootOrders.j2 kj14 a1 a2 (t157 != t158))) = some r := H
                          have A37 := Aside0.mk A370
                          clear A370
                          replace H := Option.bind_eq_some_iff.mp H
                          obtain ⟨t158, A380, H⟩ := H
                          replace H : (abacistlaw03_RootOrders.j2 kj14 a1 a2 (t157 != t158)) = some r := H
                          have A38 := Aside0.mk A380
                          clear A380
                          have H' := Aside0.mk H
                          clear H
                          go_wp2_with (first | (go_at_call 38; (with_reducible refine (abacistref03_Root.calls kj14 a1 t156 _ A36.out).mono ?_); rintro e w' ⟨rfl, ⟨nd, rfl⟩⟩) | (go_at_call 18; (with_reducible refine (abacistref02_Pow.calls kj14 t156 (IntKind.u64.wrap (t154)) t157 _ A37.out).mono ?_); rintro e w' ⟨rfl, ⟨nd, rfl⟩⟩) | (go_at_call 22; (with_reducible refine (abacistref02_Of.calls a0 t158 _ A38.out).mono ?_); rintro e w' ⟨rfl, ⟨nd, rfl⟩⟩))
                          go_meet
                          case rel => exact ⟨_, ((t157 != t158)), (by first | rfl | (simp; done) | (simp [*]; done)), H', ⟨by have := HJ7.out; have := HJ14.out; first | omega | exact Nat.le_refl _⟩, ⟨by repeat (first | (with_reducible first | exact HB.out | apply below_alloc | apply pw_below_drewN | apply below_drew1) | exact HB.out)⟩⟩
                      · rw [if_neg c33] at H
                        exact absurd H (by simp)
                  · replace c30 := Bool.eq_false_iff.mpr c30
                    subst c30
                    have H1 : (abacistlaw03_RootOrders.j2 kj14 a1 a2 false) = some r := by rw [if_neg (show ¬ (false = true) by decide)] at H; exact H
                    clear H
                    have H := H1
                    clear H1
                    have H' := Aside0.mk H
                    clear H
                    go_wp2
                    go_meet
                    case rel => exact ⟨_, (false), (by first | rfl | (simp; done) | (simp [*]; done)), H', ⟨by have := HJ7.out; have := HJ14.out; first | omega | exact Nat.le_refl _⟩, ⟨by repeat (first | (with_reducible first | exact HB.out | apply below_alloc | apply pw_below_drewN | apply below_drew1) | exact HB.out)⟩⟩
                case rest =>
                  clear HC29
                  try clear c1
                  try clear c2
                  try clear p2
                  try clear c3
                  try clear c5
                  try clear p6
                  try clear c11
                  try clear c11b0
                  try clear c11b1
                  try clear c11b2
                  try clear c13
                  try clear c17
                  try clear c17b0
                  try clear c18
                  try clear c18b0
                  try clear c19
                  try clear c19b0
                  try clear c20
                  try clear c20b0
                  try clear c20b1
                  try clear c20b2
                  try clear c21
                  try clear c22
                  try clear c22b0
                  try clear c22b1
                  try clear c22b2
                  try clear c23
                  try clear c24
                  try clear c24b0
                  try clear c24b1
                  try clear c24b2
                  try clear c25
                  try clear c26
                  try clear c26b0
                  try clear c26b1
                  try clear c26b2
                  try clear c27
                  try clear c28
                  try clear c30
                  try clear c31
                  try clear c31b0
                  try clear c33
                  try clear c33b0
                  try clear c33b1
                  try clear c35
                  try clear c35b0
                  try clear c36
                  try clear c37
                  try clear p2
                  obtain ⟨kq, x86_28, rfl, HA, HJ28, HB⟩ := hcut
                  cases kq with
                  | zero => exact absurd HA.out (by simp [abacistlaw03_RootOrders.j2])
                  | succ kj28 =>
                    have H := HA.out
                    clear HA
                    simp only [abacistlaw03_RootOrders.j2] at H
                    by_cases c39 : x86_28 = true
                    · subst c39
                      have H1 : (some false) = some r := by rw [if_pos rfl] at H; exact H
                      clear H
                      have H := H1
                      clear H1
                      obtain rfl := Option.some.inj H
                      go_wp2
                      go_ret
                      exact ⟨by first | rfl | (simp [errW_none, errW_some] <;> rfl) | (simp [*, errW_none, errW_some] <;> rfl), by repeat (first | (with_reducible first | exact HB.out | apply below_alloc | apply pw_below_drewN | apply below_drew1) | exact HB.out)⟩
                    · replace c39 := Bool.eq_false_iff.mpr c39
                      subst c39
                      have H1 : (if a1 < 0 then (abacistlaw03_RootOrders.j3 kj28 a1 a2 true) else (abacistlaw03_RootOrders.j3 kj28 a1 a2 (decide (a1 > 32)))) = some r := by rw [if_neg (show ¬ (false = true) by decide)] at H; exact H
                      clear H
                      have H := H1
                      clear H1
                      have HC40 := Aside0.mk H
                      clear H
                      go_upto_region 12 with (fail)
                      go_cut [92] (fun v92 wc => ∃ (kq : Nat) (x92_39 : Bool), v92 = .bool x92_39 ∧ Aside0 (abacistlaw03_RootOrders.j3 kq a1 a2 x92_39 = some r) ∧ Aside0 (kq ≤ kj28) ∧ Aside0 (Below w.heap.size w wc))
                      case first =>
                        have H := HC40.out
                        clear HC40
                        by_cases c41 : a1 < 0
                        · rw [if_pos c41] at H
                          have c41b0 : decide (a1 < 0) = true := decide_eq_true c41
                          clear c41
                          (first | rw [c41b0] | (simp only [i64_w, i32_w]; rw [c41b0]) | skip)
                          have H' := Aside0.mk H
                          clear H
                          go_wp2
                          go_meet
                          case rel => exact ⟨_, (true), (by first | rfl | (simp; done) | (simp [*]; done)), H', ⟨by have := HJ7.out; have := HJ14.out; have := HJ28.out; first | omega | exact Nat.le_refl _⟩, ⟨by repeat (first | (with_reducible first | exact HB.out | apply below_alloc | apply pw_below_drewN | apply below_drew1) | exact HB.out)⟩⟩
                        · rw [if_neg c41] at H
                          have c41b0 : decide (a1 < 0) = false := decide_eq_false c41
                          clear c41
                          (first | rw [c41b0] | (simp only [i64_w, i32_w]; rw [c41b0]) | skip)
                          have H' := Aside0.mk H
                          clear H
                          go_wp2
                          go_meet
                          case rel => exact ⟨_, (decide (a1 > 32)), (by first | rfl | (simp; done) | (simp [*]; done)), H', ⟨by have := HJ7.out; have := HJ14.out; have := HJ28.out; first | omega | exact Nat.le_refl _⟩, ⟨by repeat (first | (with_reducible first | exact HB.out | apply below_alloc | apply pw_below_drewN | apply below_drew1) | exact HB.out)⟩⟩
                      case rest =>
                        clear HC40
                        try clear c1
                        try clear c2
                        try clear p2
                        try clear c3
                        try clear c4
                        try clear c5
                        try clear p6
                        try clear c11
                        try clear c11b0
                        try clear c11b1
                        try clear c11b2
                        try clear c13
                        try clear c17
                        try clear c17b0
                        try clear c18
                        try clear c18b0
                        try clear c19
                        try clear c19b0
                        try clear c20
                        try clear c20b0
                        try clear c20b1
                        try clear c20b2
                        try clear c21
                        try clear c22
                        try clear c22b0
                        try clear c22b1
                        try clear c22b2
                        try clear c23
                        try clear c24
                        try clear c24b0
                        try clear c24b1
                        try clear c24b2
                        try clear c25
                        try clear c26
                        try clear c26b0
                        try clear c26b1
                        try clear c26b2
                        try clear c27
                        try clear c28
                        try clear c30
                        try clear c31
                        try clear c31b0
                        try clear c33
                        try clear c33b0
                        try clear c33b1
                        try clear c35
                        try clear c35b0
                        try clear c36
                        try clear c37
                        try clear c39
                        try clear c41
                        try clear c41b0
                        try clear p2
                        try clear p6
                        obtain ⟨kq, x92_39, rfl, HA, HJ39, HB⟩ := hcut
                        cases kq with
                        | zero => exact absurd HA.out (by simp [abacistlaw03_RootOrders.j3])
                        | succ kj39 =>
                          have H := HA.out
                          clear HA
                          simp only [abacistlaw03_RootOrders.j3] at H
                          by_cases c42 : x92_39 = true
                          · subst c42
                            have H1 : (some true) = some r := by rw [if_pos rfl] at H; exact H
                            clear H
                            have H := H1
                            clear H1
                            obtain rfl := Option.some.inj H
                            go_wp2
                            go_ret
                            exact ⟨by first | rfl | (simp [errW_none, errW_some] <;> rfl) | (simp [*, errW_none, errW_some] <;> rfl), by repeat (first | (with_reducible first | exact HB.out | apply below_alloc | apply pw_below_drewN | apply below_drew1) | exact HB.out)⟩
                          · replace c42 := Bool.eq_false_iff.mpr c42
                            subst c42
                            have H1 : (if 0 ≤ (IntKind.u64.wrap (a1)) then (if (shl .i64 1 (IntKind.u64.wrap (a1))) = 0 then (none) else ((abacistref03_Root.f kj39 a1).bind fun t159 => ((abacistref02_Pow.f kj39 t159 (IntKind.u64.wrap (Int.tmod (wrap64 (a2)) (shl .i64 1 (IntKind.u64.wrap (a1)))))).bind fun t160 => ((root_Log.f kj39 t160 a1).bind fun bt161 => (if bt161.2 = true then (some (bt161.1 == (Int.tmod (wrap64 (a2)) (shl .i64 1 (IntKind.u64.wrap (a1)))))) else (some false)))))) else (none)) = some r := by rw [if_neg (show ¬ (false = true) by decide)] at H; exact H
                            clear H
                            have H := H1
                            clear H1
                            obtain ⟨ji43, hji43⟩ : ∃ j_ : Int, (IntKind.u64.wrap (a1)) = j_ := ⟨_, rfl⟩
                            replace H : (if 0 ≤ (ji43) then (if (shl .i64 1 (ji43)) = 0 then (none) else ((abacistref03_Root.f kj39 a1).bind fun t159 => ((abacistref02_Pow.f kj39 t159 (IntKind.u64.wrap (Int.tmod (wrap64 (a2)) (shl .i64 1 (ji43))))).bind fun t160 => ((root_Log.f kj39 t160 a1).bind fun bt161 => (if bt161.2 = true then (some (bt161.1 == (Int.tmod (wrap64 (a2)) (shl .i64 1 (ji43))))) else (some false)))))) else (none)) = some r := by first | (rw [hji43] at H; exact H) | (simp only [hji43] at H ⊢; exact H)
                            by_cases c44 : 0 ≤ (ji43)
                            · rw [if_pos c44] at H
                              have c44b0 := eq_true c44
                              have c44b1 : decide (0 ≤ (ji43)) = true := decide_eq_true c44
                              clear c44
                              obtain ⟨ji45, hji45⟩ : ∃ j_ : Int, (shl .i64 1 (ji43)) = j_ := ⟨_, rfl⟩
                              replace H : (if (ji45) = 0 then (none) else ((abacistref03_Root.f kj39 a1).bind fun t159 => ((abacistref02_Pow.f kj39 t159 (IntKind.u64.wrap (Int.tmod (wrap64 (a2)) (ji45)))).bind fun t160 => ((root_Log.f kj39 t160 a1).bind fun bt161 => (if bt161.2 = true then (some (bt161.1 == (Int.tmod (wrap64 (a2)) (ji45)))) else (some false)))))) = some r := by first | (rw [hji45] at H; exact H) | (simp only [hji45] at H ⊢; exact H)
                              have hji45_ : (IntKind.i64.wrap (1 * 2 ^ min (ji43).toNat 64)) = ji45 := hji45
                              have hji45z : (ji43) ≤ 64 → (IntKind.i64.wrap (1 * 2 ^ (ji43).toNat)) = ji45 := shl_small hji45
                              have hji45u : (IntKind.i64.wrap (2 ^ min (ji43).toNat 64)) = ji45 := by have h_ := hji45_; rw [Int.one_mul] at h_; exact h_
                              have hji45v : (ji43) ≤ 64 → (IntKind.i64.wrap (2 ^ (ji43).toNat)) = ji45 := fun hle_ => by have h_ := hji45z hle_; rw [Int.one_mul] at h_; exact h_
                              have hji45y : (wrap64 (1 * 2 ^ min (ji43).toNat 64)) = ji45 := (i64_w _).symm.trans hji45_
                              have hji45x : (ji43) ≤ 64 → (wrap64 (1 * 2 ^ (ji43).toNat)) = ji45 := fun h_ => (i64_w _).symm.trans (hji45z h_)
                              by_cases c46 : (ji45) = 0
                              · rw [if_pos c46] at H
                                exact absurd H (by simp)
                              · rw [if_neg c46] at H
                                have c46b0 : ((ji45) == 0) = false := beq_eq_false_iff_ne.mpr c46
                                have c46b1 : ((ji45) != 0) = true := bne_iff_ne.mpr c46
                                replace H := Option.bind_eq_some_iff.mp H
                                obtain ⟨t159, A470, H⟩ := H
                                replace H : ((abacistref02_Pow.f kj39 t159 (IntKind.u64.wrap (Int.tmod (wrap64 (a2)) (ji45)))).bind fun t160 => ((root_Log.f kj39 t160 a1).bind fun bt161 => (if bt161.2 = true then (some (bt161.1 == (Int.tmod (wrap64 (a2)) (ji45)))) else (some false)))) = some r := H
                                have A47 := Aside0.mk A470
                                clear A470
                                replace H := Option.bind_eq_some_iff.mp H
                                obtain ⟨t160, A480, H⟩ := H
                                replace H : ((root_Log.f kj39 t160 a1).bind fun bt161 => (if bt161.2 = true then (some (bt161.1 == (Int.tmod (wrap64 (a2)) (ji45)))) else (some false))) = some r := H
                                have A48 := Aside0.mk A480
                                clear A480
                                replace H := Option.bind_eq_some_iff.mp H
                                obtain ⟨⟨t161, t162⟩, A490, H⟩ := H
                                replace H : (if t162 = true then (some (t161 == (Int.tmod (wrap64 (a2)) (ji45)))) else (some false)) = some r := H
                                have A49 := Aside0.mk A490
                                clear A490
                                by_cases c50 : t162 = true
                                · subst c50
                                  have H1 : (some (t161 == (Int.tmod (wrap64 (a2)) (ji45)))) = some r := by rw [if_pos rfl] at H; exact H
                                  clear H
                                  have H := H1
                                  clear H1
                                  obtain rfl := Option.some.inj H
                                  go_wp2_with (first | ((with_reducible refine gate_callee (f := 38) rfl ?_); refine goesL_ (some 101) rfl rfl Try.func38 (by kernel_rfl) rfl #[.int .i64 a1] rfl (by (try simp only [List.map_toArray, List.map_cons, List.map_nil]); first | done | rfl | (simp only [List.length_drop, List.length_take]; rfl)) ?_; (with_reducible refine (abacistref03_Root.calls kj39 a1 t159 _ A47.out).mono ?_); rintro e w' ⟨rfl, ⟨nd, rfl⟩⟩; refine ⟨_, rfl, ?_⟩) | ((with_reducible refine gate_callee (f := 18) rfl ?_); refine goesL_ (some 104) rfl rfl Try.func18 (by kernel_rfl) rfl #[.int .u64 t159, .int .u64 (IntKind.u64.wrap (Int.tmod (wrap64 (a2)) (ji45)))] rfl (by (try simp only [List.map_toArray, List.map_cons, List.map_nil]); first | done | (simp only [hji45]; rfl) | rfl | (simp only [List.length_drop, List.length_take]; rfl)) ?_; (with_reducible refine (abacistref02_Pow.calls kj39 t159 (IntKind.u64.wrap (Int.tmod (wrap64 (a2)) (ji45))) t160 _ A48.out).mono ?_); rintro e w' ⟨rfl, ⟨nd, rfl⟩⟩; refine ⟨_, rfl, ?_⟩) | ((with_reducible refine gate_callee (f := 37) rfl ?_); refine goesL_ (some 106) rfl rfl Try.func37 (by kernel_rfl) rfl #[.int .u64 t160, .int .i64 a1] rfl (by (try simp only [List.map_toArray, List.map_cons, List.map_nil]); first | done | rfl | (simp only [List.length_drop, List.length_take]; rfl)) ?_; (with_reducible refine (root_Log.calls kj39 t160 a1 t161 true _ A49.out).mono ?_); rintro e w51 ⟨rfl, hb⟩; refine ⟨_, rfl, ?_⟩; have n0_ := Aside0.mk (below_step (by repeat (first | (with_reducible first | exact HB.out | apply below_alloc | apply pw_below_drewN | apply below_drew1) | exact HB.out)) hb); clear HB; have HB := n0_; clear n0_; (try clear hb); (try clear hb2); (try clear hk); (try clear hi)))
                                  go_ret
                                  exact ⟨by first | rfl | (simp [errW_none, errW_some] <;> rfl) | (simp only [← hji43, ← hji45]; first | rfl | (simp [errW_none, errW_some] <;> rfl)) | (simp [*, errW_none, errW_some] <;> rfl), by repeat (first | (with_reducible first | exact HB.out | apply below_alloc | apply pw_below_drewN | apply below_drew1) | exact HB.out)⟩
                                · replace c50 := Bool.eq_false_iff.mpr c50
                                  subst c50
                                  have H1 : (some false) = some r := by rw [if_neg (show ¬ (false = true) by decide)] at H; exact H
                                  clear H
                                  have H := H1
                                  clear H1
                                  obtain rfl := Option.some.inj H
                                  go_wp2_with (first | ((with_reducible refine gate_callee (f := 38) rfl ?_); refine goesL_ (some 101) rfl rfl Try.func38 (by kernel_rfl) rfl #[.int .i64 a1] rfl (by (try simp only [List.map_toArray, List.map_cons, List.map_nil]); first | done | rfl | (simp only [List.length_drop, List.length_take]; rfl)) ?_; (with_reducible refine (abacistref03_Root.calls kj39 a1 t159 _ A47.out).mono ?_); rintro e w' ⟨rfl, ⟨nd, rfl⟩⟩; refine ⟨_, rfl, ?_⟩) | ((with_reducible refine gate_callee (f := 18) rfl ?_); refine goesL_ (some 104) rfl rfl Try.func18 (by kernel_rfl) rfl #[.int .u64 t159, .int .u64 (IntKind.u64.wrap (Int.tmod (wrap64 (a2)) (ji45)))] rfl (by (try simp only [List.map_toArray, List.map_cons, List.map_nil]); first | done | (simp only [hji45]; rfl) | rfl | (simp only [List.length_drop, List.length_take]; rfl)) ?_; (with_reducible refine (abacistref02_Pow.calls kj39 t159 (IntKind.u64.wrap (Int.tmod (wrap64 (a2)) (ji45))) t160 _ A48.out).mono ?_); rintro e w' ⟨rfl, ⟨nd, rfl⟩⟩; refine ⟨_, rfl, ?_⟩) | ((with_reducible refine gate_callee (f := 37) rfl ?_); refine goesL_ (some 106) rfl rfl Try.func37 (by kernel_rfl) rfl #[.int .u64 t160, .int .i64 a1] rfl (by (try simp only [List.map_toArray, List.map_cons, List.map_nil]); first | done | rfl | (simp only [List.length_drop, List.length_take]; rfl)) ?_; (with_reducible refine (root_Log.calls kj39 t160 a1 t161 false _ A49.out).mono ?_); rintro e w52 ⟨rfl, hb⟩; refine ⟨_, rfl, ?_⟩; have n0_ := Aside0.mk (below_step (by repeat (first | (with_reducible first | exact HB.out | apply below_alloc | apply pw_below_drewN | apply below_drew1) | exact HB.out)) hb); clear HB; have HB := n0_; clear n0_; (try clear hb); (try clear hb2); (try clear hk); (try clear hi)))
                                  go_ret
                                  exact ⟨by first | rfl | (simp [errW_none, errW_some] <;> rfl) | (simp only [← hji43, ← hji45]; first | rfl | (simp [errW_none, errW_some] <;> rfl)) | (simp [*, errW_none, errW_some] <;> rfl), by repeat (first | (with_reducible first | exact HB.out | apply below_alloc | apply pw_below_drewN | apply below_drew1) | exact HB.out)⟩
                            · rw [if_neg c44] at H
                              exact absurd H (by simp)
  · replace c5 := Bool.eq_false_iff.mpr c5
    subst c5
    have H1 : (some false) = some r := by rw [if_neg (show ¬ (false = true) by decide)] at H; exact H
    clear H
    have H := H1
    clear H1
    obtain rfl := Option.some.inj H
    go_enter Try.func11, Try.ntmps11
    go_wp2_with (first | ((with_reducible refine gate_callee (f := 25) rfl ?_); refine goesL_ (some 15) rfl rfl Try.func25 (by kernel_rfl) rfl #[] rfl (by (try simp only [List.map_toArray, List.map_cons, List.map_nil]); first | done | rfl | (simp only [List.length_drop, List.length_take]; rfl)) ?_; (with_reducible refine (abacistlaw03_awake.calls k  false _ A4.out).mono ?_); rintro e w53 ⟨rfl, hb⟩; refine ⟨_, rfl, ?_⟩; have n0_ := Aside0.mk (below_step (by repeat (first | (with_reducible first | exact HB.out | apply below_alloc | apply pw_below_drewN | apply below_drew1) | exact HB.out)) hb); clear HB; have HB := n0_; clear n0_; (try clear hb); (try clear hb2); (try clear hk); (try clear hi)))
    go_ret
    exact ⟨by first | rfl | (simp [errW_none, errW_some] <;> rfl) | (simp [*, errW_none, errW_some] <;> rfl), by repeat (first | (with_reducible first | exact HB.out | apply below_alloc | apply pw_below_drewN | apply below_drew1) | exact HB.out)⟩

/-- THE ONE PURE STATEMENT of abacistlaw03_RootOrders: yours. -/
def abacistlaw03_RootOrders.Pure : Prop := ∀ (a0 : Int) (a1 : Int) (a2 : Int), (Lit.int .u64 a0).wf = true → (Lit.int .i64 a1).wf = true → (Lit.int .u32 a2).wf = true → ∃ k, abacistlaw03_RootOrders.f k a0 a1 a2 = some true
theorem abacistlaw03_RootOrders.walk (P : abacistlaw03_RootOrders.Pure) (a0 : Int) (a1 : Int) (a2 : Int) (w : World) (w0 : (Lit.int .u64 a0).wf = true) (w1 : (Lit.int .i64 a1).wf = true) (w2 : (Lit.int .u32 a2).wf = true) :
    Calls Try.prog 11 #[.int .u64 a0, .int .i64 a1, .int .u32 a2] w fun e w' => e = .returned (.bool true) ∧ Below w.heap.size w w' := by
  obtain ⟨k, h⟩ := P a0 a1 a2 w0 w1 w2
  refine (abacistlaw03_RootOrders.calls k a0 a1 a2 true w h).mono ?_
  rintro e w' ⟨rfl, hd⟩
  exact ⟨rfl, hd⟩

end Go.Proofs.Ytalfhpghmoikoaa.PRootOrders
