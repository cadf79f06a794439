-- Written for this claim by wip/gen/mk.sh, this session's own driver over the kit's print
import Derived.Test.YtjooodbjbidjiaaDoorPConvTellsx0
import Derived.Test.YtjooodbjbidjiaaDoorPConvTellsx1
import Derived.Test.YtjooodbjbidjiaaDoorPConvTellsx5
import Derived.Test.YtjooodbjbidjiaaDoorPConvTellsx6
import Derived.Test.YtjooodbjbidjiaaDoorPConvTellsx7
namespace Go.Proofs.YtjooodbjbidjiaaDoor.PConvTells
open Go.RowKit Go.Proofs.YtjooodbjbidjiaaDoorW.PrintWords Go.Proofs.YtjooodbjbidjiaaDoorW.PrintLast Go.Proofs.YtjooodbjbidjiaaDoorW.PrintMore
attribute [local go_sem] max2_int min2_int max_two min_two max_three min_three max_four min_four   -- for this text's walks alone
set_option linter.unusedVariables false
set_option linter.unusedSimpArgs false

/-! ### abacistlaw13_ConvTells: function 4 -/
mutual
def abacistlaw13_ConvTells.j0 : Nat → List Int → List Int → Bool → Option (Bool)
  | 0, _, _, _ => none
  | k + 1, x0, x1, x21 => if x21 = true then (some true) else ((conv_Cyclic.f k x0 x1).bind fun bt288 => ((conv_Negacyclic.f k x0 x1).bind fun bt292 => ((conv_Correlate.f k x0 x1).bind fun bt296 => (if (x0.length : Int) = (x1.length : Int) then ((abacistref03_Fits.f k (x0.length : Int)).bind fun t300 => (if t300 < 0 then (abacistlaw13_ConvTells.j1 k x0 x1 bt288.1 bt288.2 bt292.1 bt292.2 bt296.1 bt296.2 4) else (abacistlaw13_ConvTells.j1 k x0 x1 bt288.1 bt288.2 bt292.1 bt292.2 bt296.1 bt296.2 0))) else (abacistlaw13_ConvTells.j1 k x0 x1 bt288.1 bt288.2 bt292.1 bt292.2 bt296.1 bt296.2 19)))))
def abacistlaw13_ConvTells.j1 : Nat → List Int → List Int → List Int → Int → List Int → Int → List Int → Int → Int → Option (Bool)
  | 0, _, _, _, _, _, _, _, _, _ => none
  | k + 1, x0, x1, x5, x6, x7, x8, x9, x10, x11 => if x11 = 0 then (if x6 = 0 then (if x8 = 0 then (if x10 = 0 then ((abacistref13_Cyclic.f k x0 x1 false).bind fun t301 => ((abacistref04_Same.f k x5 t301).bind fun t304 => (if t304 = true then ((abacistref13_Cyclic.f k x0 x1 true).bind fun t305 => ((abacistref04_Same.f k x7 t305).bind fun t308 => (if t308 = true then ((abacistref13_Correlate.f k x0 x1).bind fun t309 => ((abacistref04_Same.f k x9 t309).bind fun t312 => (some t312))) else (some false)))) else (some false)))) else (some false)) else (some false)) else (some false)) else (if x6 = x11 then (if x8 = x11 then (if x10 = x11 then (if (x5.length : Int) = 0 then (if (x7.length : Int) = 0 then (some ((x9.length : Int) == 0)) else (some false)) else (some false)) else (some false)) else (some false)) else (some false))
end
def abacistlaw13_ConvTells.f (k : Nat) (l0 : List Int) (l1 : List Int) : Option (Bool) := (abacistlaw13_awake.f k).bind fun t287 => (if t287 = true then (if (l0.length : Int) > 64 then (abacistlaw13_ConvTells.j0 k l0 l1 true) else (abacistlaw13_ConvTells.j0 k l0 l1 (decide ((l1.length : Int) > 64)))) else (some false))
theorem abacistlaw13_ConvTells.mono_l : ∀ k, (∀ y0 y1 y2, LeO (abacistlaw13_ConvTells.j0 k y0 y1 y2) (abacistlaw13_ConvTells.j0 (k + 1) y0 y1 y2)) ∧ (∀ y0 y1 y2 y3 y4 y5 y6 y7 y8, LeO (abacistlaw13_ConvTells.j1 k y0 y1 y2 y3 y4 y5 y6 y7 y8) (abacistlaw13_ConvTells.j1 (k + 1) y0 y1 y2 y3 y4 y5 y6 y7 y8))
  | 0 => ⟨fun _ _ _ r h => by simp [abacistlaw13_ConvTells.j0] at h, fun _ _ _ _ _ _ _ _ _ r h => by simp [abacistlaw13_ConvTells.j1] at h⟩
  | k + 1 => by
    obtain ⟨ih0, ih1⟩ := abacistlaw13_ConvTells.mono_l k
    refine ⟨?_, ?_⟩
    · intro y0 y1 y2
      unfold abacistlaw13_ConvTells.j0
      repeat' first
      | (with_reducible exact ih0 _ _ _)
      | (with_reducible exact ih1 _ _ _ _ _ _ _ _ _)
      | (with_reducible exact abacistlaw13_awake.mono _)
      | (with_reducible exact abacistref03_Fits.mono _ _)
      | (with_reducible exact abacistref04_Same.mono _ _ _)
      | (with_reducible exact abacistref13_Correlate.mono _ _ _)
      | (with_reducible exact abacistref13_Cyclic.mono _ _ _ _)
      | (with_reducible exact conv_Correlate.mono _ _ _)
      | (with_reducible exact conv_Cyclic.mono _ _ _)
      | (with_reducible exact conv_Negacyclic.mono _ _ _)
      | (with_reducible exact LeO.refl _)
      | (with_reducible exact LeO.none _)
      | (with_reducible refine LeO.ite ?_ ?_)
      | (with_reducible refine LeO.bind ?_ (fun _ => ?_))
      | exact ih0 _ _ _
      | exact ih1 _ _ _ _ _ _ _ _ _
      | exact abacistlaw13_awake.mono _
      | exact abacistref03_Fits.mono _ _
      | exact abacistref04_Same.mono _ _ _
      | exact abacistref13_Correlate.mono _ _ _
      | exact abacistref13_Cyclic.mono _ _ _ _
      | exact conv_Correlate.mono _ _ _
      | exact conv_Cyclic.mono _ _ _
      | exact conv_Negacyclic.mono _ _ _
      | exact LeO.none _
      | refine LeO.ite ?_ ?_
      | refine LeO.bind ?_ (fun _ => ?_)
    · intro y0 y1 y2 y3 y4 y5 y6 y7 y8
      unfold abacistlaw13_ConvTells.j1
      repeat' first
      | (with_reducible exact ih0 _ _ _)
      | (with_reducible exact ih1 _ _ _ _ _ _ _ _ _)
      | (with_reducible exact abacistlaw13_awake.mono _)
      | (with_reducible exact abacistref03_Fits.mono _ _)
      | (with_reducible exact abacistref04_Same.mono _ _ _)
      | (with_reducible exact abacistref13_Correlate.mono _ _ _)
      | (with_reducible exact abacistref13_Cyclic.mono _ _ _ _)
      | (with_reducible exact conv_Correlate.mono _ _ _)
      | (with_reducible exact conv_Cyclic.mono _ _ _)
      | (with_reducible exact conv_Negacyclic.mono _ _ _)
      | (with_reducible exact LeO.refl _)
      | (with_reducible exact LeO.none _)
      | (with_reducible refine LeO.ite ?_ ?_)
      | (with_reducible refine LeO.bind ?_ (fun _ => ?_))
      | exact ih0 _ _ _
      | exact ih1 _ _ _ _ _ _ _ _ _
      | exact abacistlaw13_awake.mono _
      | exact abacistref03_Fits.mono _ _
      | exact abacistref04_Same.mono _ _ _
      | exact abacistref13_Correlate.mono _ _ _
      | exact abacistref13_Cyclic.mono _ _ _ _
      | exact conv_Correlate.mono _ _ _
      | exact conv_Cyclic.mono _ _ _
      | exact conv_Negacyclic.mono _ _ _
      | exact LeO.none _
      | refine LeO.ite ?_ ?_
      | refine LeO.bind ?_ (fun _ => ?_)
theorem abacistlaw13_ConvTells.mono : ∀ a0 a1 k, LeO (abacistlaw13_ConvTells.f k a0 a1) (abacistlaw13_ConvTells.f (k + 1) a0 a1) := by
  intro a0 a1 k
  obtain ⟨ih0, ih1⟩ := abacistlaw13_ConvTells.mono_l k
  unfold abacistlaw13_ConvTells.f
  repeat' first
      | (with_reducible exact ih0 _ _ _)
      | (with_reducible exact ih1 _ _ _ _ _ _ _ _ _)
      | (with_reducible exact abacistlaw13_awake.mono _)
      | (with_reducible exact abacistref03_Fits.mono _ _)
      | (with_reducible exact abacistref04_Same.mono _ _ _)
      | (with_reducible exact abacistref13_Correlate.mono _ _ _)
      | (with_reducible exact abacistref13_Cyclic.mono _ _ _ _)
      | (with_reducible exact conv_Correlate.mono _ _ _)
      | (with_reducible exact conv_Cyclic.mono _ _ _)
      | (with_reducible exact conv_Negacyclic.mono _ _ _)
      | (with_reducible exact LeO.refl _)
      | (with_reducible exact LeO.none _)
      | (with_reducible refine LeO.ite ?_ ?_)
      | (with_reducible refine LeO.bind ?_ (fun _ => ?_))
      | exact ih0 _ _ _
      | exact ih1 _ _ _ _ _ _ _ _ _
      | exact abacistlaw13_awake.mono _
      | exact abacistref03_Fits.mono _ _
      | exact abacistref04_Same.mono _ _ _
      | exact abacistref13_Correlate.mono _ _ _
      | exact abacistref13_Cyclic.mono _ _ _ _
      | exact conv_Correlate.mono _ _ _
      | exact conv_Cyclic.mono _ _ _
      | exact conv_Negacyclic.mono _ _ _
      | exact LeO.none _
      | refine LeO.ite ?_ ?_
      | refine LeO.bind ?_ (fun _ => ?_)
set_option maxHeartbeats 80000000 in
set_option maxRecDepth 100000 in
theorem abacistlaw13_ConvTells.calls (k : Nat) (A0 : Option Addr) (c0 : Nat) (l0 : List Int) (A1 : Option Addr) (c1 : Nat) (l1 : List Int) (r : Bool) (hr_ : Aside0 (r = true)) (w : World) (hr0 : Kd.C (Kd.int .u64) w A0 l0.length l0) (hc0 : l0.length ≤ c0) (hr1 : Kd.C (Kd.int .u64) w A1 l1.length l1) (hc1 : l1.length ≤ c1) (hG : Aside0 (TzTab w)) (h : abacistlaw13_ConvTells.f k l0 l1 = some r) :
    Calls Tryd.prog 4 #[.slice A0 l0.length c0, .slice A1 l1.length c1] w fun e w' => e = .returned (.bool r) ∧ Below w.heap.size w w' := by
  have HR0 := Aside0.mk hr0
  have HC0 := Aside0.mk hc0
  clear hr0 hc0
  have HR1 := Aside0.mk hr1
  have HC1 := Aside0.mk hc1
  clear hr1 hc1
  have HB := Aside0.mk (Below.refl w.heap.size w)
  have H : ((abacistlaw13_awake.f k).bind fun t287 => (if t287 = true then (if (l0.length : Int) > 64 then (abacistlaw13_ConvTells.j0 k l0 l1 true) else (abacistlaw13_ConvTells.j0 k l0 l1 (decide ((l1.length : Int) > 64)))) else (some false))) = some r := h
  clear h
  replace H := Option.bind_eq_some_iff.mp H
  obtain ⟨t287, A30, H⟩ := H
  replace H : (if t287 = true then (if (l0.length : Int) > 64 then (abacistlaw13_ConvTells.j0 k l0 l1 true) else (abacistlaw13_ConvTells.j0 k l0 l1 (decide ((l1.length : Int) > 64)))) else (some false)) = some r := H
  have A3 := Aside0.mk A30
  clear A30
  by_cases c4 : t287 = true
  · subst c4
    have H1 : (if (l0.length : Int) > 64 then (abacistlaw13_ConvTells.j0 k l0 l1 true) else (abacistlaw13_ConvTells.j0 k l0 l1 (decide ((l1.length : Int) > 64)))) = some r := by rw [if_pos rfl] at H; exact H
    clear H
    have H := H1
    clear H1
    have HC5 := Aside0.mk H
    clear H
    go_enter Tryd.func4, Tryd.ntmps4
    go_upto_region 3 with (first | ((with_reducible refine gate_callee (f := 6) rfl ?_); refine goesL_ (some 12) rfl rfl Tryd.func6 (by kernel_rfl) rfl #[] rfl (by (try simp only [List.map_toArray, List.map_cons, List.map_nil]); first | done | rfl | (simp only [List.length_drop, List.length_take]; rfl)) ?_; (with_reducible refine (abacistlaw13_awake.calls k  true _ ?sideG A3.out).mono ?_); (case sideG => first | exact hG | exact ⟨hG.out⟩ | exact ⟨hG.out.below (by repeat (first | (with_reducible first | exact HB.out | apply below_alloc | apply pw_below_drewN | apply below_drew1) | exact HB.out))⟩); rintro e w6 ⟨rfl, hb⟩; refine ⟨_, rfl, ?_⟩; have n0_ := Aside0.mk (below_step (by repeat (first | (with_reducible first | exact HB.out | apply below_alloc | apply pw_below_drewN | apply below_drew1) | exact HB.out)) hb); clear HB; have HB := n0_; clear n0_; (try clear hb); (try clear hb2); (try clear hk); (try clear hi)) | (go_at_call 6; (with_reducible refine (abacistlaw13_awake.calls k  true _ ?sideG A3.out).mono ?_); (case sideG => first | exact hG | exact ⟨hG.out⟩ | exact ⟨hG.out.below (by repeat (first | (with_reducible first | exact HB.out | apply below_alloc | apply pw_below_drewN | apply below_drew1) | exact HB.out))⟩); rintro e w6 ⟨rfl, hb⟩; have n0_ := Aside0.mk (below_step (by repeat (first | (with_reducible first | exact HB.out | apply below_alloc | apply pw_below_drewN | apply below_drew1) | exact HB.out)) hb); clear HB; have HB := n0_; clear n0_; (try clear hb); (try clear hb2); (try clear hk); (try clear hi)))
    (try simp only [Act.put, List.setIfInBounds_toArray, List.set_cons_zero, List.set_cons_succ])
    go_cut [21] (fun v21 wc => ∃ (kq : Nat) (x21_4 : Bool), v21 = .bool x21_4 ∧ Aside0 (abacistlaw13_ConvTells.j0 kq l0 l1 x21_4 = some r) ∧ Aside0 (kq ≤ k) ∧ Aside0 (Below w.heap.size w wc))
    case first =>
      have H := HC5.out
      clear HC5
      by_cases c7 : (l0.length : Int) > 64
      · rw [if_pos c7] at H
        have c7b0 : decide (64 < (l0.length : Int)) = true := decide_eq_true c7
        have c7b1 : decide (64 < l0.length) = true := decide_eq_true (by omega)
        clear c7
        (first | rw [c7b0] | (simp only [i64_w, i32_w]; rw [c7b0]) | skip)
        have H' := Aside0.mk H
        clear H
        go_wp2
        go_meet
        case rel => exact ⟨_, (true), (by first | rfl | (simp; done) | (simp [*]; done)), H', ⟨by first | omega | exact Nat.le_refl _⟩, ⟨by repeat (first | (with_reducible first | exact HB.out | apply below_alloc | apply pw_below_drewN | apply below_drew1) | exact HB.out)⟩⟩
      · rw [if_neg c7] at H
        have c7b0 : decide (64 < (l0.length : Int)) = false := decide_eq_false c7
        have c7b1 : decide (64 < l0.length) = false := decide_eq_false (by omega)
        clear c7
        (first | rw [c7b0] | (simp only [i64_w, i32_w]; rw [c7b0]) | skip)
        have H' := Aside0.mk H
        clear H
        go_wp2
        go_meet
        case rel => exact ⟨_, (decide ((l1.length : Int) > 64)), (by first | rfl | (simp; done) | (simp [*]; done)), H', ⟨by first | omega | exact Nat.le_refl _⟩, ⟨by repeat (first | (with_reducible first | exact HB.out | apply below_alloc | apply pw_below_drewN | apply below_drew1) | exact HB.out)⟩⟩
    case rest =>
      clear HC5
      try clear c1
      try clear p2
      try clear c4
      try clear c6
      try clear c7
      try clear c7b0
      try clear c7b1
      obtain ⟨kq, x21_4, rfl, HA, HJ4, HB⟩ := hcut
      cases kq with
      | zero => exact absurd HA.out (by simp [abacistlaw13_ConvTells.j0])
      | succ kj4 =>
        have H := HA.out
        clear HA
        simp only [abacistlaw13_ConvTells.j0] at H
        by_cases c8 : x21_4 = true
        · subst c8
          have H1 : (some true) = some r := by rw [if_pos rfl] at H; exact H
          clear H
          have H := H1
          clear H1
          obtain rfl := Option.some.inj H
          go_wp2
          go_ret
          exact ⟨by first | rfl | (simp [errW_none, errW_some] <;> rfl) | (simp [*, errW_none, errW_some] <;> rfl), by repeat (first | (with_reducible first | exact HB.out | apply below_alloc | apply pw_below_drewN | apply below_drew1) | exact HB.out)⟩
        · replace c8 := Bool.eq_false_iff.mpr c8
          subst c8
          have H1 : ((conv_Cyclic.f kj4 l0 l1).bind fun bt288 => ((conv_Negacyclic.f kj4 l0 l1).bind fun bt292 => ((conv_Correlate.f kj4 l0 l1).bind fun bt296 => (if (l0.length : Int) = (l1.length : Int) then ((abacistref03_Fits.f kj4 (l0.length : Int)).bind fun t300 => (if t300 < 0 then (abacistlaw13_ConvTells.j1 kj4 l0 l1 bt288.1 bt288.2 bt292.1 bt292.2 bt296.1 bt296.2 4) else (abacistlaw13_ConvTells.j1 kj4 l0 l1 bt288.1 bt288.2 bt292.1 bt292.2 bt296.1 bt296.2 0))) else (abacistlaw13_ConvTells.j1 kj4 l0 l1 bt288.1 bt288.2 bt292.1 bt292.2 bt296.1 bt296.2 19))))) = some r := by rw [if_neg (show ¬ (false = true) by decide)] at H; exact H
          clear H
          have H := H1
          clear H1
          replace H := Option.bind_eq_some_iff.mp H
          obtain ⟨⟨t288, t289⟩, A90, H⟩ := H
          replace H : ((conv_Negacyclic.f kj4 l0 l1).bind fun bt292 => ((conv_Correlate.f kj4 l0 l1).bind fun bt296 => (if (l0.length : Int) = (l1.length : Int) then ((abacistref03_Fits.f kj4 (l0.length : Int)).bind fun t300 => (if t300 < 0 then (abacistlaw13_ConvTells.j1 kj4 l0 l1 t288 t289 bt292.1 bt292.2 bt296.1 bt296.2 4) else (abacistlaw13_ConvTells.j1 kj4 l0 l1 t288 t289 bt292.1 bt292.2 bt296.1 bt296.2 0))) else (abacistlaw13_ConvTells.j1 kj4 l0 l1 t288 t289 bt292.1 bt292.2 bt296.1 bt296.2 19)))) = some r := H
          have A9 := Aside0.mk A90
          clear A90
          replace H := Option.bind_eq_some_iff.mp H
          obtain ⟨⟨t292, t293⟩, A100, H⟩ := H
          replace H : ((conv_Correlate.f kj4 l0 l1).bind fun bt296 => (if (l0.length : Int) = (l1.length : Int) then ((abacistref03_Fits.f kj4 (l0.length : Int)).bind fun t300 => (if t300 < 0 then (abacistlaw13_ConvTells.j1 kj4 l0 l1 t288 t289 t292 t293 bt296.1 bt296.2 4) else (abacistlaw13_ConvTells.j1 kj4 l0 l1 t288 t289 t292 t293 bt296.1 bt296.2 0))) else (abacistlaw13_ConvTells.j1 kj4 l0 l1 t288 t289 t292 t293 bt296.1 bt296.2 19))) = some r := H
          have A10 := Aside0.mk A100
          clear A100
          replace H := Option.bind_eq_some_iff.mp H
          obtain ⟨⟨t296, t297⟩, A110, H⟩ := H
          replace H : (if (l0.length : Int) = (l1.length : Int) then ((abacistref03_Fits.f kj4 (l0.length : Int)).bind fun t300 => (if t300 < 0 then (abacistlaw13_ConvTells.j1 kj4 l0 l1 t288 t289 t292 t293 t296 t297 4) else (abacistlaw13_ConvTells.j1 kj4 l0 l1 t288 t289 t292 t293 t296 t297 0))) else (abacistlaw13_ConvTells.j1 kj4 l0 l1 t288 t289 t292 t293 t296 t297 19)) = some r := H
          have A11 := Aside0.mk A110
          clear A110
          have HC12 := Aside0.mk H
          clear H
          go_upto_if 44 with (first | ((with_reducible refine gate_callee (f := 8) rfl ?_); refine goesL_ (some 25) rfl rfl Tryd.func8 (by kernel_rfl) rfl #[.slice A0 l0.length c0, .slice A1 l1.length c1] rfl (by (try simp only [List.map_toArray, List.map_cons, List.map_nil]); first | done | rfl | (simp only [List.length_drop, List.length_take]; rfl)) ?_; (with_reducible refine (conv_Cyclic.calls kj4 _ _ l0 _ _ l1 t288 t289 _ ?side1 ?side2 ?side3 ?side4 ?sideG A9.out).mono ?_); (case sideG => first | exact hG | exact ⟨hG.out⟩ | exact ⟨hG.out.below (by repeat (first | (with_reducible first | exact HB.out | apply below_alloc | apply pw_below_drewN | apply below_drew1) | exact HB.out))⟩); (case side1 => repeat (first | exact (Kd.C_below HR0.out HB.out) | (with_reducible refine Kd.C_alloc ?_ _) | (with_reducible refine Kd.C_drewN ?_ _) | (with_reducible refine Kd.C_drew ?_))); (case side2 => exact HC0.out); (case side3 => repeat (first | exact (Kd.C_below HR1.out HB.out) | (with_reducible refine Kd.C_alloc ?_ _) | (with_reducible refine Kd.C_drewN ?_ _) | (with_reducible refine Kd.C_drew ?_))); (case side4 => exact HC1.out); rintro e w13 ⟨v290, rfl, ho0, hb⟩; refine ⟨_, rfl, ?_⟩; have n0_ := Aside0.mk (Kd.R_lower ho0 (below_size (by repeat (first | (with_reducible first | exact HB.out | apply below_alloc | apply pw_below_drewN | apply below_drew1) | exact HB.out)))); have n1_ := Aside0.mk (below_step (by repeat (first | (with_reducible first | exact HB.out | apply below_alloc | apply pw_below_drewN | apply below_drew1) | exact HB.out)) hb); clear HB; have HO291 := n0_; have HB := n1_; clear n0_ n1_; (try clear hb); (try clear hb2); (try clear hk); (try clear hi); (try clear ho0)) | (go_at_call 8; (with_reducible refine (conv_Cyclic.calls kj4 _ _ l0 _ _ l1 t288 t289 _ ?side1 ?side2 ?side3 ?side4 ?sideG A9.out).mono ?_); (case sideG => first | exact hG | exact ⟨hG.out⟩ | exact ⟨hG.out.below (by repeat (first | (with_reducible first | exact HB.out | apply below_alloc | apply pw_below_drewN | apply below_drew1) | exact HB.out))⟩); (case side1 => repeat (first | exact (Kd.C_below HR0.out HB.out) | (with_reducible refine Kd.C_alloc ?_ _) | (with_reducible refine Kd.C_drewN ?_ _) | (with_reducible refine Kd.C_drew ?_))); (case side2 => exact HC0.out); (case side3 => repeat (first | exact (Kd.C_below HR1.out HB.out) | (with_reducible refine Kd.C_alloc ?_ _) | (with_reducible refine Kd.C_drewN ?_ _) | (with_reducible refine Kd.C_drew ?_))); (case side4 => exact HC1.out); rintro e w13 ⟨v290, rfl, ho0, hb⟩; have n0_ := Aside0.mk (Kd.R_lower ho0 (below_size (by repeat (first | (with_reducible first | exact HB.out | apply below_alloc | apply pw_below_drewN | apply below_drew1) | exact HB.out)))); have n1_ := Aside0.mk (below_step (by repeat (first | (with_reducible first | exact HB.out | apply below_alloc | apply pw_below_drewN | apply below_drew1) | exact HB.out)) hb); clear HB; have HO291 := n0_; have HB := n1_; clear n0_ n1_; (try clear hb); (try clear hb2); (try clear hk); (try clear hi); (try clear ho0)) | ((with_reducible refine gate_callee (f := 9) rfl ?_); refine goesL_ (some 31) rfl rfl Tryd.func9 (by kernel_rfl) rfl #[.slice A0 l0.length c0, .slice A1 l1.length c1] rfl (by (try simp only [List.map_toArray, List.map_cons, List.map_nil]); first | done | rfl | (simp only [List.length_drop, List.length_take]; rfl)) ?_; (with_reducible refine (conv_Negacyclic.calls kj4 _ _ l0 _ _ l1 t292 t293 _ ?side1 ?side2 ?side3 ?side4 ?sideG A10.out).mono ?_); (case sideG => first | exact hG | exact ⟨hG.out⟩ | exact ⟨hG.out.below (by repeat (first | (with_reducible first | exact HB.out | apply below_alloc | apply pw_below_drewN | apply below_drew1) | exact HB.out))⟩); (case side1 => repeat (first | exact (Kd.C_below HR0.out HB.out) | (with_reducible refine Kd.C_alloc ?_ _) | (with_reducible refine Kd.C_drewN ?_ _) | (with_reducible refine Kd.C_drew ?_))); (case side2 => exact HC0.out); (case side3 => repeat (first | exact (Kd.C_below HR1.out HB.out) | (with_reducible refine Kd.C_alloc ?_ _) | (with_reducible refine Kd.C_drewN ?_ _) | (with_reducible refine Kd.C_drew ?_))); (case side4 => exact HC1.out); rintro e w14 ⟨v294, rfl, ho0, hb⟩; refine ⟨_, rfl, ?_⟩; have n0_ := Aside0.mk (Kd.R_elder' (by (with_reducible repeat (first | apply Kd.R_alloc | apply Kd.R_drewN | apply Kd.R_drew)); exact HO291.out) (Kd.R_base ho0) hb); have n1_ := Aside0.mk (Kd.R_lower (Kd.R_new' ho0 (Kd.R_lt (by (with_reducible repeat (first | apply Kd.R_alloc | apply Kd.R_drewN | apply Kd.R_drew)); exact HO291.out))) (below_size (by repeat (first | (with_reducible first | exact HB.out | apply below_alloc | apply pw_below_drewN | apply below_drew1) | exact HB.out)))); have n2_ := Aside0.mk (below_step (by repeat (first | (with_reducible first | exact HB.out | apply below_alloc | apply pw_below_drewN | apply below_drew1) | exact HB.out)) hb); clear HO291; clear HB; have HO291 := n0_; have HO295 := n1_; have HB := n2_; clear n0_ n1_ n2_; (try clear hb); (try clear hb2); (try clear hk); (try clear hi); (try clear ho0)) | (go_at_call 9; (with_reducible refine (conv_Negacyclic.calls kj4 _ _ l0 _ _ l1 t292 t293 _ ?side1 ?side2 ?side3 ?side4 ?sideG A10.out).mono ?_); (case sideG => first | exact hG | exact ⟨hG.out⟩ | exact ⟨hG.out.below (by repeat (first | (with_reducible first | exact HB.out | apply below_alloc | apply pw_below_drewN | apply below_drew1) | exact HB.out))⟩); (case side1 => repeat (first | exact (Kd.C_below HR0.out HB.out) | (with_reducible refine Kd.C_alloc ?_ _) | (with_reducible refine Kd.C_drewN ?_ _) | (with_reducible refine Kd.C_drew ?_))); (case side2 => exact HC0.out); (case side3 => repeat (first | exact (Kd.C_below HR1.out HB.out) | (with_reducible refine Kd.C_alloc ?_ _) | (with_reducible refine Kd.C_drewN ?_ _) | (with_reducible refine Kd.C_drew ?_))); (case side4 => exact HC1.out); rintro e w14 ⟨v294, rfl, ho0, hb⟩; have n0_ := Aside0.mk (Kd.R_elder' (by (with_reducible repeat (first | apply Kd.R_alloc | apply Kd.R_drewN | apply Kd.R_drew)); exact HO291.out) (Kd.R_base ho0) hb); have n1_ := Aside0.mk (Kd.R_lower (Kd.R_new' ho0 (Kd.R_lt (by (with_reducible repeat (first | apply Kd.R_alloc | apply Kd.R_drewN | apply Kd.R_drew)); exact HO291.out))) (below_size (by repeat (first | (with_reducible first | exact HB.out | apply below_alloc | apply pw_below_drewN | apply below_drew1) | exact HB.out)))); have n2_ := Aside0.mk (below_step (by repeat (first | (with_reducible first | exact HB.out | apply below_alloc | apply pw_below_drewN | apply below_drew1) | exact HB.out)) hb); clear HO291; clear HB; have HO291 := n0_; have HO295 := n1_; have HB := n2_; clear n0_ n1_ n2_; (try clear hb); (try clear hb2); (try clear hk); (try clear hi); (try clear ho0)) | ((with_reducible refine gate_callee (f := 14) rfl ?_); refine goesL_ (some 37) rfl rfl Tryd.func14 (by kernel_rfl) rfl #[.slice A0 l0.length c0, .slice A1 l1.length c1] rfl (by (try simp only [List.map_toArray, List.map_cons, List.map_nil]); first | done | rfl | (simp only [List.length_drop, List.length_take]; rfl)) ?_; (with_reducible refine (conv_Correlate.calls kj4 _ _ l0 _ _ l1 t296 t297 _ ?side1 ?side2 ?side3 ?side4 ?sideG A11.out).mono ?_); (case sideG => first | exact hG | exact ⟨hG.out⟩ | exact ⟨hG.out.below (by repeat (first | (with_reducible first | exact HB.out | apply below_alloc | apply pw_below_drewN | apply below_drew1) | exact HB.out))⟩); (case side1 => repeat (first | exact (Kd.C_below HR0.out HB.out) | (with_reducible refine Kd.C_alloc ?_ _) | (with_reducible refine Kd.C_drewN ?_ _) | (with_reducible refine Kd.C_drew ?_))); (case side2 => exact HC0.out); (case side3 => repeat (first | exact (Kd.C_below HR1.out HB.out) | (with_reducible refine Kd.C_alloc ?_ _) | (with_reducible refine Kd.C_drewN ?_ _) | (with_reducible refine Kd.C_drew ?_))); (case side4 => exact HC1.out); rintro e w15 ⟨v298, rfl, ho0, hb⟩; refine ⟨_, rfl, ?_⟩; have n0_ := Aside0.mk (Kd.R_elder' (by (with_reducible repeat (first | apply Kd.R_alloc | apply Kd.R_drewN | apply Kd.R_drew)); exact HO291.out) (Kd.R_base ho0) hb); have n1_ := Aside0.mk (Kd.R_elder' (by (with_reducible repeat (first | apply Kd.R_alloc | apply Kd.R_drewN | apply Kd.R_drew)); exact HO295.out) (Kd.R_base ho0) hb); have n2_ := Aside0.mk (Kd.R_lower (Kd.R_new' (Kd.R_new' ho0 (Kd.R_lt (by (with_reducible repeat (first | apply Kd.R_alloc | apply Kd.R_drewN | apply Kd.R_drew)); exact HO291.out))) (Kd.R_lt (by (with_reducible repeat (first | apply Kd.R_alloc | apply Kd.R_drewN | apply Kd.R_drew)); exact HO295.out))) (below_size (by repeat (first | (with_reducible first | exact HB.out | apply below_alloc | apply pw_below_drewN | apply below_drew1) | exact HB.out)))); have n3_ := Aside0.mk (below_step (by repeat (first | (with_reducible first | exact HB.out | apply below_alloc | apply pw_below_drewN | apply below_drew1) | exact HB.out)) hb); clear HO291; clear HO295; clear HB; have HO291 := n0_; have HO295 := n1_; have HO299 := n2_; have HB := n3_; clear n0_ n1_ n2_ n3_; (try clear hb); (try clear hb2); (try clear hk); (try clear hi); (try clear ho0)) | (go_at_call 14; (with_reducible refine (conv_Correlate.calls kj4 _ _ l0 _ _ l1 t296 t297 _ ?side1 ?side2 ?side3 ?side4 ?sideG A11.out).mono ?_); (case sideG => first | exact hG | exact ⟨hG.out⟩ | exact ⟨hG.out.below (by repeat (first | (with_reducible first | exact HB.out | apply below_alloc | apply pw_below_drewN | apply below_drew1) | exact HB.out))⟩); (case side1 => repeat (first | exact (Kd.C_below HR0.out HB.out) | (with_reducible refine Kd.C_alloc ?_ _) | (with_reducible refine Kd.C_drewN ?_ _) | (with_reducible refine Kd.C_drew ?_))); (case side2 => exact HC0.out); (case side3 => repeat (first | exact (Kd.C_below HR1.out HB.out) | (with_reducible refine Kd.C_alloc ?_ _) | (with_reducible refine Kd.C_drewN ?_ _) | (with_reducible refine Kd.C_drew ?_))); (case side4 => exact HC1.out); rintro e w15 ⟨v298, rfl, ho0, hb⟩; have n0_ := Aside0.mk (Kd.R_elder' (by (with_reducible repeat (first | apply Kd.R_alloc | apply Kd.R_drewN | apply Kd.R_drew)); exact HO291.out) (Kd.R_base ho0) hb); have n1_ := Aside0.mk (Kd.R_elder' (by (with_reducible repeat (first | apply Kd.R_alloc | apply Kd.R_drewN | apply Kd.R_drew)); exact HO295.out) (Kd.R_base ho0) hb); have n2_ := Aside0.mk (Kd.R_lower (Kd.R_new' (Kd.R_new' ho0 (Kd.R_lt (by (with_reducible repeat (first | apply Kd.R_alloc | apply Kd.R_drewN | apply Kd.R_drew)); exact HO291.out))) (Kd.R_lt (by (with_reducible repeat (first | apply Kd.R_alloc | apply Kd.R_drewN | apply Kd.R_drew)); exact HO295.out))) (below_size (by repeat (first | (with_reducible first | exact HB.out | apply below_alloc | apply pw_below_drewN | apply below_drew1) | exact HB.out)))); have n3_ := Aside0.mk (below_step (by repeat (first | (with_reducible first | exact HB.out | apply below_alloc | apply pw_below_drewN | apply below_drew1) | exact HB.out)) hb); clear HO291; clear HO295; clear HB; have HO291 := n0_; have HO295 := n1_; have HO299 := n2_; have HB := n3_; clear n0_ n1_ n2_ n3_; (try clear hb); (try clear hb2); (try clear hk); (try clear hi); (try clear ho0)))
          (try simp only [Act.put, List.setIfInBounds_toArray, List.set_cons_zero, List.set_cons_succ])
          go_cut [11] (fun v11 wc => ∃ (kq : Nat) (x11_11 : Int), v11 = .int .i64 x11_11 ∧ Aside0 (abacistlaw13_ConvTells.j1 kq l0 l1 t288 t289 t292 t293 t296 t297 x11_11 = some r) ∧ Aside0 (kq ≤ kj4) ∧ Aside0 (Kd.R (Kd.int .u64) 28 wc w.heap.size (fun k_ => some k_ ≠ (v294 : Value).ownBlock ∧ some k_ ≠ (v298 : Value).ownBlock) v290 t288) ∧ Aside0 (Kd.R (Kd.int .u64) 28 wc w.heap.size (fun k_ => some k_ ≠ (v290 : Value).ownBlock ∧ some k_ ≠ (v298 : Value).ownBlock) v294 t292) ∧ Aside0 (Kd.R (Kd.int .u64) 28 wc w.heap.size (fun k_ => some k_ ≠ (v290 : Value).ownBlock ∧ some k_ ≠ (v294 : Value).ownBlock) v298 t296) ∧ Aside0 (Below w.heap.size w wc))
          case first =>
            have H := HC12.out
            clear HC12
            by_cases c16 : (l0.length : Int) = (l1.length : Int)
            · rw [if_pos c16] at H
              have c16b0 : ((l0.length : Int) == (l1.length : Int)) = true := beq_iff_eq.mpr c16
              have c16b1 : ((l0.length : Int) != (l1.length : Int)) = false := bne_eq_false_iff_eq.mpr c16
              have c16b2 : (l0.length == l1.length) = true := by first | simpa using c16 | (simp at c16 ⊢; omega)
              clear c16
              (first | rw [c16b0] | (simp only [i64_w, i32_w]; rw [c16b0]) | skip)
              replace H := Option.bind_eq_some_iff.mp H
              obtain ⟨t300, A170, H⟩ := H
              replace H : (if t300 < 0 then (abacistlaw13_ConvTells.j1 kj4 l0 l1 t288 t289 t292 t293 t296 t297 4) else (abacistlaw13_ConvTells.j1 kj4 l0 l1 t288 t289 t292 t293 t296 t297 0)) = some r := H
              have A17 := Aside0.mk A170
              clear A170
              by_cases c18 : t300 < 0
              · rw [if_pos c18] at H
                have c18b0 : decide (t300 < 0) = true := decide_eq_true c18
                clear c18
                have H' := Aside0.mk H
                clear H
                go_wp2_with (first | ((with_reducible refine gate_callee (f := 7) rfl ?_); refine goesL_ (some 47) rfl rfl Tryd.func7 (by kernel_rfl) rfl #[.int .i64 (l0.length : Int)] rfl (by (try simp only [List.map_toArray, List.map_cons, List.map_nil]); first | done | rfl | (simp only [List.length_drop, List.length_take]; rfl)) ?_; (with_reducible refine (abacistref03_Fits.calls kj4 (l0.length : Int) t300 _ A17.out).mono ?_); rintro e w' ⟨rfl, ⟨nd, rfl⟩⟩; refine ⟨_, rfl, ?_⟩) | (go_at_call 7; (with_reducible refine (abacistref03_Fits.calls kj4 (l0.length : Int) t300 _ A17.out).mono ?_); rintro e w' ⟨rfl, ⟨nd, rfl⟩⟩))
                go_meet
                case rel => exact ⟨_, (4), (by first | rfl | (simp; done) | (simp [*]; done)), H', ⟨by have := HJ4.out; first | omega | exact Nat.le_refl _⟩, ⟨by (with_reducible repeat (first | apply Kd.R_alloc | apply Kd.R_drewN | apply Kd.R_drew)); exact Kd.R_mono HO291.out (fun _ hk => ⟨hk.1.2, hk.2⟩)⟩, ⟨by (with_reducible repeat (first | apply Kd.R_alloc | apply Kd.R_drewN | apply Kd.R_drew)); exact Kd.R_mono HO295.out (fun _ hk => ⟨hk.1.2, hk.2⟩)⟩, ⟨by (with_reducible repeat (first | apply Kd.R_alloc | apply Kd.R_drewN | apply Kd.R_drew)); exact Kd.R_mono HO299.out (fun _ hk => ⟨hk.1.2, hk.2⟩)⟩, ⟨by repeat (first | (with_reducible first | exact HB.out | apply below_alloc | apply pw_below_drewN | apply below_drew1) | exact HB.out)⟩⟩
              · rw [if_neg c18] at H
                have c18b0 : decide (t300 < 0) = false := decide_eq_false c18
                clear c18
                have H' := Aside0.mk H
                clear H
                go_wp2_with (first | ((with_reducible refine gate_callee (f := 7) rfl ?_); refine goesL_ (some 47) rfl rfl Tryd.func7 (by kernel_rfl) rfl #[.int .i64 (l0.length : Int)] rfl (by (try simp only [List.map_toArray, List.map_cons, List.map_nil]); first | done | rfl | (simp only [List.length_drop, List.length_take]; rfl)) ?_; (with_reducible refine (abacistref03_Fits.calls kj4 (l0.length : Int) t300 _ A17.out).mono ?_); rintro e w' ⟨rfl, ⟨nd, rfl⟩⟩; refine ⟨_, rfl, ?_⟩) | (go_at_call 7; (with_reducible refine (abacistref03_Fits.calls kj4 (l0.length : Int) t300 _ A17.out).mono ?_); rintro e w' ⟨rfl, ⟨nd, rfl⟩⟩))
                go_meet
                case rel => exact ⟨_, (0), (by first | rfl | (simp; done) | (simp [*]; done)), H', ⟨by have := HJ4.out; first | omega | exact Nat.le_refl _⟩, ⟨by (with_reducible repeat (first | apply Kd.R_alloc | apply Kd.R_drewN | apply Kd.R_drew)); exact Kd.R_mono HO291.out (fun _ hk => ⟨hk.1.2, hk.2⟩)⟩, ⟨by (with_reducible repeat (first | apply Kd.R_alloc | apply Kd.R_drewN | apply Kd.R_drew)); exact Kd.R_mono HO295.out (fun _ hk => ⟨hk.1.2, hk.2⟩)⟩, ⟨by (with_reducible repeat (first | apply Kd.R_alloc | apply Kd.R_drewN | apply Kd.R_drew)); exact Kd.R_mono HO299.out (fun _ hk => ⟨hk.1.2, hk.2⟩)⟩, ⟨by repeat (first | (with_reducible first | exact HB.out | apply below_alloc | apply pw_below_drewN | apply below_drew1) | exact HB.out)⟩⟩
            · rw [if_neg c16] at H
              have c16b0 : ((l0.length : Int) == (l1.length : Int)) = false := beq_eq_false_iff_ne.mpr c16
              have c16b1 : ((l0.length : Int) != (l1.length : Int)) = true := bne_iff_ne.mpr c16
              have c16b2 : (l0.length == l1.length) = false := by first | simpa using c16 | (simp at c16 ⊢; omega)
              (first | rw [c16b0] | (simp only [i64_w, i32_w]; rw [c16b0]) | skip)
              have H' := Aside0.mk H
              clear H
              go_wp2
              go_meet
              case rel => exact ⟨_, (19), (by first | rfl | (simp; done) | (simp [*]; done)), H', ⟨by have := HJ4.out; first | omega | exact Nat.le_refl _⟩, ⟨by (with_reducible repeat (first | apply Kd.R_alloc | apply Kd.R_drewN | apply Kd.R_drew)); exact Kd.R_mono HO291.out (fun _ hk => ⟨hk.1.2, hk.2⟩)⟩, ⟨by (with_reducible repeat (first | apply Kd.R_alloc | apply Kd.R_drewN | apply Kd.R_drew)); exact Kd.R_mono HO295.out (fun _ hk => ⟨hk.1.2, hk.2⟩)⟩, ⟨by (with_reducible repeat (first | apply Kd.R_alloc | apply Kd.R_drewN | apply Kd.R_drew)); exact Kd.R_mono HO299.out (fun _ hk => ⟨hk.1.2, hk.2⟩)⟩, ⟨by repeat (first | (with_reducible first | exact HB.out | apply below_alloc | apply pw_below_drewN | apply below_drew1) | exact HB.out)⟩⟩
          case rest =>
            clear HC12
            try clear c1
            try clear p2
            try clear c4
            try clear c6
            try clear c7
            try clear c7b0
            try clear c7b1
            try clear c8
            try clear c9
            try clear c14
            try clear c16
            try clear c16b0
            try clear c16b1
            try clear c16b2
            try clear c18
            try clear c18b0
            try clear p2
            obtain ⟨kq, x11_11, rfl, HA, HJ11, HO_5, HO_7, HO_9, HB⟩ := hcut
            cases kq with
            | zero => exact absurd HA.out (by simp [abacistlaw13_ConvTells.j1])
            | succ kj11 =>
              have H := HA.out
              clear HA
              simp only [abacistlaw13_ConvTells.j1] at H
              by_cases c19 : x11_11 = 0
              · rw [if_pos c19] at H
                have c19b0 : (x11_11 == 0) = true := beq_iff_eq.mpr c19
                have c19b1 : (x11_11 != 0) = false := bne_eq_false_iff_eq.mpr c19
                clear c19
                by_cases c20 : t289 = 0
                · rw [if_pos c20] at H
                  have c20b0 : (t289 == 0) = true := beq_iff_eq.mpr c20
                  have c20b1 : (t289 != 0) = false := bne_eq_false_iff_eq.mpr c20
                  clear c20
                  by_cases c21 : t293 = 0
                  · rw [if_pos c21] at H
                    have c21b0 : (t293 == 0) = true := beq_iff_eq.mpr c21
                    have c21b1 : (t293 != 0) = false := bne_eq_false_iff_eq.mpr c21
                    clear c21
                    by_cases c22 : t297 = 0
                    · rw [if_pos c22] at H
                      have c22b0 : (t297 == 0) = true := beq_iff_eq.mpr c22
                      have c22b1 : (t297 != 0) = false := bne_eq_false_iff_eq.mpr c22
                      clear c22
                      replace H := Option.bind_eq_some_iff.mp H
                      obtain ⟨t301, A230, H⟩ := H
                      replace H : ((abacistref04_Same.f kj11 t288 t301).bind fun t304 => (if t304 = true then ((abacistref13_Cyclic.f kj11 l0 l1 true).bind fun t305 => ((abacistref04_Same.f kj11 t292 t305).bind fun t308 => (if t308 = true then ((abacistref13_Correlate.f kj11 l0 l1).bind fun t309 => ((abacistref04_Same.f kj11 t296 t309).bind fun t312 => (some t312))) else (some false)))) else (some false))) = some r := H
                      have A23 := Aside0.mk A230
                      clear A230
                      replace H := Option.bind_eq_some_iff.mp H
                      obtain ⟨t304, A240, H⟩ := H
                      replace H : (if t304 = true then ((abacistref13_Cyclic.f kj11 l0 l1 true).bind fun t305 => ((abacistref04_Same.f kj11 t292 t305).bind fun t308 => (if t308 = true then ((abacistref13_Correlate.f kj11 l0 l1).bind fun t309 => ((abacistref04_Same.f kj11 t296 t309).bind fun t312 => (some t312))) else (some false)))) else (some false)) = some r := H
                      have A24 := Aside0.mk A240
                      clear A240
                      by_cases c25 : t304 = true
                      · subst c25
                        have H1 : ((abacistref13_Cyclic.f kj11 l0 l1 true).bind fun t305 => ((abacistref04_Same.f kj11 t292 t305).bind fun t308 => (if t308 = true then ((abacistref13_Correlate.f kj11 l0 l1).bind fun t309 => ((abacistref04_Same.f kj11 t296 t309).bind fun t312 => (some t312))) else (some false)))) = some r := by rw [if_pos rfl] at H; exact H
                        clear H
                        have H := H1
                        clear H1
                        replace H := Option.bind_eq_some_iff.mp H
                        obtain ⟨t305, A260, H⟩ := H
                        replace H : ((abacistref04_Same.f kj11 t292 t305).bind fun t308 => (if t308 = true then ((abacistref13_Correlate.f kj11 l0 l1).bind fun t309 => ((abacistref04_Same.f kj11 t296 t309).bind fun t312 => (some t312))) else (some false))) = some r := H
                        have A26 := Aside0.mk A260
                        clear A260
                        replace H := Option.bind_eq_some_iff.mp H
                        obtain ⟨t308, A270, H⟩ := H
                        replace H : (if t308 = true then ((abacistref13_Correlate.f kj11 l0 l1).bind fun t309 => ((abacistref04_Same.f kj11 t296 t309).bind fun t312 => (some t312))) else (some false)) = some r := H
                        have A27 := Aside0.mk A270
                        clear A270
                        by_cases c28 : t308 = true
                        · subst c28
                          have H1 : ((abacistref13_Correlate.f kj11 l0 l1).bind fun t309 => ((abacistref04_Same.f kj11 t296 t309).bind fun t312 => (some t312))) = some r := by rw [if_pos rfl] at H; exact H
                          clear H
                          have H := H1
                          clear H1
                          replace H := Option.bind_eq_some_iff.mp H
                          obtain ⟨t309, A290, H⟩ := H
                          replace H : ((abacistref04_Same.f kj11 t296 t309).bind fun t312 => (some t312)) = some r := H
                          have A29 := Aside0.mk A290
                          clear A290
                          replace H := Option.bind_eq_some_iff.mp H
                          obtain ⟨t312, A300, H⟩ := H
                          replace H : (some t312) = some r := H
                          have A30 := Aside0.mk A300
                          clear A300
                          obtain rfl := Option.some.inj H
                          go_wp2_with (first | (go_at_call 15; (with_reducible refine (abacistref13_Cyclic.calls kj11 _ _ l0 _ _ l1 false t301 _ ?side1 ?side2 ?side3 ?side4 A23.out).mono ?_); (case side1 => repeat (first | exact (Kd.C_below HR0.out HB.out) | (with_reducible refine Kd.C_alloc ?_ _) | (with_reducible refine Kd.C_drewN ?_ _) | (with_reducible refine Kd.C_drew ?_))); (case side2 => exact HC0.out); (case side3 => repeat (first | exact (Kd.C_below HR1.out HB.out) | (with_reducible refine Kd.C_alloc ?_ _) | (with_reducible refine Kd.C_drewN ?_ _) | (with_reducible refine Kd.C_drew ?_))); (case side4 => exact HC1.out); rintro e w31 ⟨v302, rfl, ho0, hb⟩; have n0_ := Aside0.mk (Kd.R_elder' (by (with_reducible repeat (first | apply Kd.R_alloc | apply Kd.R_drewN | apply Kd.R_drew)); exact HO_5.out) (Kd.R_base ho0) hb); have n1_ := Aside0.mk (Kd.R_elder' (by (with_reducible repeat (first | apply Kd.R_alloc | apply Kd.R_drewN | apply Kd.R_drew)); exact HO_7.out) (Kd.R_base ho0) hb); have n2_ := Aside0.mk (Kd.R_elder' (by (with_reducible repeat (first | apply Kd.R_alloc | apply Kd.R_drewN | apply Kd.R_drew)); exact HO_9.out) (Kd.R_base ho0) hb); have n3_ := Aside0.mk (Kd.R_lower (Kd.R_new' (Kd.R_new' (Kd.R_new' ho0 (Kd.R_lt (by (with_reducible repeat (first | apply Kd.R_alloc | apply Kd.R_drewN | apply Kd.R_drew)); exact HO_5.out))) (Kd.R_lt (by (with_reducible repeat (first | apply Kd.R_alloc | apply Kd.R_drewN | apply Kd.R_drew)); exact HO_7.out))) (Kd.R_lt (by (with_reducible repeat (first | apply Kd.R_alloc | apply Kd.R_drewN | apply Kd.R_drew)); exact HO_9.out))) (below_size (by repeat (first | (with_reducible first | exact HB.out | apply below_alloc | apply pw_below_drewN | apply below_drew1) | exact HB.out)))); have n4_ := Aside0.mk (below_step (by repeat (first | (with_reducible first | exact HB.out | apply below_alloc | apply pw_below_drewN | apply below_drew1) | exact HB.out)) hb); clear HO_5; clear HO_7; clear HO_9; clear HB; have HO_5 := n0_; have HO_7 := n1_; have HO_9 := n2_; have HO303 := n3_; have HB := n4_; clear n0_ n1_ n2_ n3_ n4_; (try clear hb); (try clear hb2); (try clear hk); (try clear hi); (try clear ho0); obtain ⟨Ao32, co32, eo32⟩ := Kd.R_slice HO_5.out; subst eo32; obtain ⟨Ao33, co33, eo33⟩ := Kd.R_slice HO303.out; subst eo33) | (go_at_call 11; (with_reducible refine (abacistref04_Same.calls kj11 _ _ t288 _ _ t301 true _ ?side1 ?side2 ?side3 ?side4 A24.out).mono ?_); (case side1 => repeat (first | exact (Kd.R_reads' HO_5.out).2.2 | (with_reducible refine Kd.C_alloc ?_ _) | (with_reducible refine Kd.C_drewN ?_ _) | (with_reducible refine Kd.C_drew ?_))); (case side2 => exact (Kd.R_reads' HO_5.out).2.1); (case side3 => repeat (first | exact (Kd.R_reads' HO303.out).2.2 | (with_reducible refine Kd.C_alloc ?_ _) | (with_reducible refine Kd.C_drewN ?_ _) | (with_reducible refine Kd.C_drew ?_))); (case side4 => exact (Kd.R_reads' HO303.out).2.1); rintro e w' ⟨rfl, ⟨nd, rfl⟩⟩) | (go_at_call 15; (with_reducible refine (abacistref13_Cyclic.calls kj11 _ _ l0 _ _ l1 true t305 _ ?side1 ?side2 ?side3 ?side4 A26.out).mono ?_); (case side1 => repeat (first | exact (Kd.C_below HR0.out (by repeat (first | (with_reducible first | exact HB.out | apply below_alloc | apply pw_below_drewN | apply below_drew1) | exact HB.out))) | (with_reducible refine Kd.C_alloc ?_ _) | (with_reducible refine Kd.C_drewN ?_ _) | (with_reducible refine Kd.C_drew ?_))); (case side2 => exact HC0.out); (case side3 => repeat (first | exact (Kd.C_below HR1.out (by repeat (first | (with_reducible first | exact HB.out | apply below_alloc | apply pw_below_drewN | apply below_drew1) | exact HB.out))) | (with_reducible refine Kd.C_alloc ?_ _) | (with_reducible refine Kd.C_drewN ?_ _) | (with_reducible refine Kd.C_drew ?_))); (case side4 => exact HC1.out); rintro e w34 ⟨v306, rfl, ho0, hb⟩; have n0_ := Aside0.mk (Kd.R_elder' (by (with_reducible repeat (first | apply Kd.R_alloc | apply Kd.R_drewN | apply Kd.R_drew)); exact HO_5.out) (Kd.R_base ho0) hb); have n1_ := Aside0.mk (Kd.R_elder' (by (with_reducible repeat (first | apply Kd.R_alloc | apply Kd.R_drewN | apply Kd.R_drew)); exact HO_7.out) (Kd.R_base ho0) hb); have n2_ := Aside0.mk (Kd.R_elder' (by (with_reducible repeat (first | apply Kd.R_alloc | apply Kd.R_drewN | apply Kd.R_drew)); exact HO_9.out) (Kd.R_base ho0) hb); have n3_ := Aside0.mk (Kd.R_elder' (by (with_reducible repeat (first | apply Kd.R_alloc | apply Kd.R_drewN | apply Kd.R_drew)); exact HO303.out) (Kd.R_base ho0) hb); have n4_ := Aside0.mk (Kd.R_lower (Kd.R_new' (Kd.R_new' (Kd.R_new' (Kd.R_new' ho0 (Kd.R_lt (by (with_reducible repeat (first | apply Kd.R_alloc | apply Kd.R_drewN | apply Kd.R_drew)); exact HO_5.out))) (Kd.R_lt (by (with_reducible repeat (first | apply Kd.R_alloc | apply Kd.R_drewN | apply Kd.R_drew)); exact HO_7.out))) (Kd.R_lt (by (with_reducible repeat (first | apply Kd.R_alloc | apply Kd.R_drewN | apply Kd.R_drew)); exact HO_9.out))) (Kd.R_lt (by (with_reducible repeat (first | apply Kd.R_alloc | apply Kd.R_drewN | apply Kd.R_drew)); exact HO303.out))) (below_size (by repeat (first | (with_reducible first | exact HB.out | apply below_alloc | apply pw_below_drewN | apply below_drew1) | exact HB.out)))); have n5_ := Aside0.mk (below_step (by repeat (first | (with_reducible first | exact HB.out | apply below_alloc | apply pw_below_drewN | apply below_drew1) | exact HB.out)) hb); clear HO_5; clear HO_7; clear HO_9; clear HO303; clear HB; have HO_5 := n0_; have HO_7 := n1_; have HO_9 := n2_; have HO303 := n3_; have HO307 := n4_; have HB := n5_; clear n0_ n1_ n2_ n3_ n4_ n5_; (try clear hb); (try clear hb2); (try clear hk); (try clear hi); (try clear ho0); obtain ⟨Ao35, co35, eo35⟩ := Kd.R_slice HO_7.out; subst eo35; obtain ⟨Ao36, co36, eo36⟩ := Kd.R_slice HO307.out; subst eo36) | (go_at_call 11; (with_reducible refine (abacistref04_Same.calls kj11 _ _ t292 _ _ t305 true _ ?side1 ?side2 ?side3 ?side4 A27.out).mono ?_); (case side1 => repeat (first | exact (Kd.R_reads' HO_7.out).2.2 | (with_reducible refine Kd.C_alloc ?_ _) | (with_reducible refine Kd.C_drewN ?_ _) | (with_reducible refine Kd.C_drew ?_))); (case side2 => exact (Kd.R_reads' HO_7.out).2.1); (case side3 => repeat (first | exact (Kd.R_reads' HO307.out).2.2 | (with_reducible refine Kd.C_alloc ?_ _) | (with_reducible refine Kd.C_drewN ?_ _) | (with_reducible refine Kd.C_drew ?_))); (case side4 => exact (Kd.R_reads' HO307.out).2.1); rintro e w' ⟨rfl, ⟨nd, rfl⟩⟩) | (go_at_call 16; (with_reducible refine (abacistref13_Correlate.calls kj11 _ _ l0 _ _ l1 t309 _ ?side1 ?side2 ?side3 ?side4 A29.out).mono ?_); (case side1 => repeat (first | exact (Kd.C_below HR0.out (by repeat (first | (with_reducible first | exact HB.out | apply below_alloc | apply pw_below_drewN | apply below_drew1) | exact HB.out))) | (with_reducible refine Kd.C_alloc ?_ _) | (with_reducible refine Kd.C_drewN ?_ _) | (with_reducible refine Kd.C_drew ?_))); (case side2 => exact HC0.out); (case side3 => repeat (first | exact (Kd.C_below HR1.out (by repeat (first | (with_reducible first | exact HB.out | apply below_alloc | apply pw_below_drewN | apply below_drew1) | exact HB.out))) | (with_reducible refine Kd.C_alloc ?_ _) | (with_reducible refine Kd.C_drewN ?_ _) | (with_reducible refine Kd.C_drew ?_))); (case side4 => exact HC1.out); rintro e w37 ⟨v310, rfl, ho0, hb⟩; have n0_ := Aside0.mk (Kd.R_elder' (by (with_reducible repeat (first | apply Kd.R_alloc | apply Kd.R_drewN | apply Kd.R_drew)); exact HO_5.out) (Kd.R_base ho0) hb); have n1_ := Aside0.mk (Kd.R_elder' (by (with_reducible repeat (first | apply Kd.R_alloc | apply Kd.R_drewN | apply Kd.R_drew)); exact HO_7.out) (Kd.R_base ho0) hb); have n2_ := Aside0.mk (Kd.R_elder' (by (with_reducible repeat (first | apply Kd.R_alloc | apply Kd.R_drewN | apply Kd.R_drew)); exact HO_9.out) (Kd.R_base ho0) hb); have n3_ := Aside0.mk (Kd.R_elder' (by (with_reducible repeat (first | apply Kd.R_alloc | apply Kd.R_drewN | apply Kd.R_drew)); exact HO303.out) (Kd.R_base ho0) hb); have n4_ := Aside0.mk (Kd.R_elder' (by (with_reducible repeat (first | apply Kd.R_alloc | apply Kd.R_drewN | apply Kd.R_drew)); exact HO307.out) (Kd.R_base ho0) hb); have n5_ := Aside0.mk (Kd.R_lower (Kd.R_new' (Kd.R_new' (Kd.R_new' (Kd.R_new' (Kd.R_new' ho0 (Kd.R_lt (by (with_reducible repeat (first | apply Kd.R_alloc | apply Kd.R_drewN | apply Kd.R_drew)); exact HO_5.out))) (Kd.R_lt (by (with_reducible repeat (first | apply Kd.R_alloc | apply Kd.R_drewN | apply Kd.R_drew)); exact HO_7.out))) (Kd.R_lt (by (with_reducible repeat (first | apply Kd.R_alloc | apply Kd.R_drewN | apply Kd.R_drew)); exact HO_9.out))) (Kd.R_lt (by (with_reducible repeat (first | apply Kd.R_alloc | apply Kd.R_drewN | apply Kd.R_drew)); exact HO303.out))) (Kd.R_lt (by (with_reducible repeat (first | apply Kd.R_alloc | apply Kd.R_drewN | apply Kd.R_drew)); exact HO307.out))) (below_size (by repeat (first | (with_reducible first | exact HB.out | apply below_alloc | apply pw_below_drewN | apply below_drew1) | exact HB.out)))); have n6_ := Aside0.mk (below_step (by repeat (first | (with_reducible first | exact HB.out | apply below_alloc | apply pw_below_drewN | apply below_drew1) | exact HB.out)) hb); clear HO_5; clear HO_7; clear HO_9; clear HO303; clear HO307; clear HB; have HO_5 := n0_; have HO_7 := n1_; have HO_9 := n2_; have HO303 := n3_; have HO307 := n4_; have HO311 := n5_; have HB := n6_; clear n0_ n1_ n2_ n3_ n4_ n5_ n6_; (try clear hb); (try clear hb2); (try clear hk); (try clear hi); (try clear ho0); obtain ⟨Ao38, co38, eo38⟩ := Kd.R_slice HO_9.out; subst eo38; obtain ⟨Ao39, co39, eo39⟩ := Kd.R_slice HO311.out; subst eo39) | (go_at_call 11; (with_reducible refine (abacistref04_Same.calls kj11 _ _ t296 _ _ t309 t312 _ ?side1 ?side2 ?side3 ?side4 A30.out).mono ?_); (case side1 => repeat (first | exact (Kd.R_reads' HO_9.out).2.2 | (with_reducible refine Kd.C_alloc ?_ _) | (with_reducible refine Kd.C_drewN ?_ _) | (with_reducible refine Kd.C_drew ?_))); (case side2 => exact (Kd.R_reads' HO_9.out).2.1); (case side3 => repeat (first | exact (Kd.R_reads' HO311.out).2.2 | (with_reducible refine Kd.C_alloc ?_ _) | (with_reducible refine Kd.C_drewN ?_ _) | (with_reducible refine Kd.C_drew ?_))); (case side4 => exact (Kd.R_reads' HO311.out).2.1); rintro e w' ⟨rfl, ⟨nd, rfl⟩⟩))
                          go_ret
                          exact ⟨by first | rfl | (simp [errW_none, errW_some] <;> rfl) | (simp [*, errW_none, errW_some] <;> rfl), by repeat (first | (with_reducible first | exact HB.out | apply below_alloc | apply pw_below_drewN | apply below_drew1) | exact HB.out)⟩
                        · replace c28 := Bool.eq_false_iff.mpr c28
                          subst c28
                          have H1 : (some false) = some r := by rw [if_neg (show ¬ (false = true) by decide)] at H; exact H
                          clear H
                          have H := H1
                          clear H1
                          obtain rfl := Option.some.inj H
                          exact absurd hr_.out (by decide)
                      · replace c25 := Bool.eq_false_iff.mpr c25
                        subst c25
                        have H1 : (some false) = some r := by rw [if_neg (show ¬ (false = true) by decide)] at H; exact H
                        clear H
                        have H := H1
                        clear H1
                        obtain rfl := Option.some.inj H
                        exact absurd hr_.out (by decide)
                    · rw [if_neg c22] at H
                      have c22b0 : (t297 == 0) = false := beq_eq_false_iff_ne.mpr c22
                      have c22b1 : (t297 != 0) = true := bne_iff_ne.mpr c22
                      obtain rfl := Option.some.inj H
                      exact absurd hr_.out (by decide)
                  · rw [if_neg c21] at H
                    have c21b0 : (t293 == 0) = false := beq_eq_false_iff_ne.mpr c21
                    have c21b1 : (t293 != 0) = true := bne_iff_ne.mpr c21
                    obtain rfl := Option.some.inj H
                    exact absurd hr_.out (by decide)
                · rw [if_neg c20] at H
                  have c20b0 : (t289 == 0) = false := beq_eq_false_iff_ne.mpr c20
                  have c20b1 : (t289 != 0) = true := bne_iff_ne.mpr c20
                  obtain rfl := Option.some.inj H
                  exact absurd hr_.out (by decide)
              · rw [if_neg c19] at H
                have c19b0 : (x11_11 == 0) = false := beq_eq_false_iff_ne.mpr c19
                have c19b1 : (x11_11 != 0) = true := bne_iff_ne.mpr c19
                by_cases c40 : t289 = x11_11
                · rw [if_pos c40] at H
                  have c40b0 : (t289 == x11_11) = true := beq_iff_eq.mpr c40
                  have c40b1 : (t289 != x11_11) = false := bne_eq_false_iff_eq.mpr c40
                  clear c40
                  by_cases c41 : t293 = x11_11
                  · rw [if_pos c41] at H
                    have c41b0 : (t293 == x11_11) = true := beq_iff_eq.mpr c41
                    have c41b1 : (t293 != x11_11) = false := bne_eq_false_iff_eq.mpr c41
                    clear c41
                    by_cases c42 : t297 = x11_11
                    · rw [if_pos c42] at H
                      have c42b0 : (t297 == x11_11) = true := beq_iff_eq.mpr c42
                      have c42b1 : (t297 != x11_11) = false := bne_eq_false_iff_eq.mpr c42
                      clear c42
                      by_cases c43 : (t288.length : Int) = 0
                      · rw [if_pos c43] at H
                        have c43b0 : ((t288.length : Int) == 0) = true := beq_iff_eq.mpr c43
                        have c43b1 : ((t288.length : Int) != 0) = false := bne_eq_false_iff_eq.mpr c43
                        clear c43
                        by_cases c44 : (t292.length : Int) = 0
                        · rw [if_pos c44] at H
                          have c44b0 : ((t292.length : Int) == 0) = true := beq_iff_eq.mpr c44
                          have c44b1 : ((t292.length : Int) != 0) = false := bne_eq_false_iff_eq.mpr c44
                          clear c44
                          obtain rfl := Option.some.inj H
                          obtain ⟨Ao45, co45, eo45⟩ := Kd.R_slice HO_5.out
                          subst eo45
                          obtain ⟨Ao46, co46, eo46⟩ := Kd.R_slice HO_7.out
                          subst eo46
                          obtain ⟨Ao47, co47, eo47⟩ := Kd.R_slice HO_9.out
                          subst eo47
                          go_wp2
                          go_ret
                          exact ⟨by first | rfl | (simp [errW_none, errW_some] <;> rfl) | (simp [*, errW_none, errW_some] <;> rfl), by repeat (first | (with_reducible first | exact HB.out | apply below_alloc | apply pw_below_drewN | apply below_drew1) | exact HB.out)⟩
                        · rw [if_neg c44] at H
                          have c44b0 : ((t292.length : Int) == 0) = false := beq_eq_false_iff_ne.mpr c44
                          have c44b1 : ((t292.length : Int) != 0) = true := bne_iff_ne.mpr c44
                          have c44b2 : ¬ (t292 = []) := fun h_ => c44 (by rw [h_]; rfl)
                          obtain rfl := Option.some.inj H
                          exact absurd hr_.out (by decide)
                      · rw [if_neg c43] at H
                        have c43b0 : ((t288.length : Int) == 0) = false := beq_eq_false_iff_ne.mpr c43
                        have c43b1 : ((t288.length : Int) != 0) = true := bne_iff_ne.mpr c43
                        have c43b2 : ¬ (t288 = []) := fun h_ => c43 (by rw [h_]; rfl)
                        obtain rfl := Option.some.inj H
                        exact absurd hr_.out (by decide)
                    · rw [if_neg c42] at H
                      have c42b0 : (t297 == x11_11) = false := beq_eq_false_iff_ne.mpr c42
                      have c42b1 : (t297 != x11_11) = true := bne_iff_ne.mpr c42
                      obtain rfl := Option.some.inj H
                      exact absurd hr_.out (by decide)
                  · rw [if_neg c41] at H
                    have c41b0 : (t293 == x11_11) = false := beq_eq_false_iff_ne.mpr c41
                    have c41b1 : (t293 != x11_11) = true := bne_iff_ne.mpr c41
                    obtain rfl := Option.some.inj H
                    exact absurd hr_.out (by decide)
                · rw [if_neg c40] at H
                  have c40b0 : (t289 == x11_11) = false := beq_eq_false_iff_ne.mpr c40
                  have c40b1 : (t289 != x11_11) = true := bne_iff_ne.mpr c40
                  obtain rfl := Option.some.inj H
                  exact absurd hr_.out (by decide)
  · replace c4 := Bool.eq_false_iff.mpr c4
    subst c4
    have H1 : (some false) = some r := by rw [if_neg (show ¬ (false = true) by decide)] at H; exact H
    clear H
    have H := H1
    clear H1
    obtain rfl := Option.some.inj H
    exact absurd hr_.out (by decide)

/-- THE ONE PURE STATEMENT of abacistlaw13_ConvTells: yours. -/
def abacistlaw13_ConvTells.Pure : Prop := ∀ (l0 : List Int) (l1 : List Int), l0.length ≤ maxLen → l0.length * 8 ≤ 140737488351232 → (∀ x ∈ l0, (Lit.int .u64 x).wf = true) → l1.length ≤ maxLen → l1.length * 8 ≤ 140737488351232 → (∀ x ∈ l1, (Lit.int .u64 x).wf = true) → ∃ k, abacistlaw13_ConvTells.f k l0 l1 = some true
theorem abacistlaw13_ConvTells.walk (P : abacistlaw13_ConvTells.Pure) (a0 : Option Addr) (len0 cap0 : Nat) (z0 : List Int) (a1 : Option Addr) (len1 cap1 : Nat) (z1 : List Int) (w : World) (hG : Aside0 (TzTab w)) (w0 : (a0 = none ∧ len0 = 0 ∧ cap0 = 0 ∧ z0 = []) ∨ ∃ x, a0 = some x ∧ len0 ≤ cap0 ∧ cap0 ≤ maxLen ∧ z0.length = cap0 ∧ (∀ i, i < z0.length → w.cell? (x.add i) = some (.int .u64 (z0.getD i 0))) ∧ ∀ n ∈ z0, (Lit.int .u64 n).wf = true) (y0 : len0 * 8 ≤ 140737488351232) (w1 : (a1 = none ∧ len1 = 0 ∧ cap1 = 0 ∧ z1 = []) ∨ ∃ x, a1 = some x ∧ len1 ≤ cap1 ∧ cap1 ≤ maxLen ∧ z1.length = cap1 ∧ (∀ i, i < z1.length → w.cell? (x.add i) = some (.int .u64 (z1.getD i 0))) ∧ ∀ n ∈ z1, (Lit.int .u64 n).wf = true) (y1 : len1 * 8 ≤ 140737488351232) :
    Calls Tryd.prog 4 #[.slice a0 len0 cap0, .slice a1 len1 cap1] w fun e w' => e = .returned (.bool true) ∧ Below w.heap.size w w' := by
  obtain ⟨l0, rfl, hr0, hm0, hw0, hc0⟩ := ReadsInt.ofRowC w0
  obtain ⟨l1, rfl, hr1, hm1, hw1, hc1⟩ := ReadsInt.ofRowC w1
  obtain ⟨k, h⟩ := P l0 l1 hm0 y0 hw0 hm1 y1 hw1
  refine (abacistlaw13_ConvTells.calls k _ _ l0 _ _ l1 true ⟨rfl⟩ w (Kd.C_of_reads (d := (0 : Int)) (h1 := fun _ => rfl) hr0) hc0 (Kd.C_of_reads (d := (0 : Int)) (h1 := fun _ => rfl) hr1) hc1 hG h).mono ?_
  rintro e w' ⟨rfl, hd⟩
  exact ⟨rfl, hd⟩

end Go.Proofs.YtjooodbjbidjiaaDoor.PConvTells
