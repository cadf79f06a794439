-- Written for this claim by wip/gen/mk.sh, this session's own driver over the kit's print
import Derived.Test.YtlifdpaamcdmfaaDoorPTwidTellsx0
import Derived.Test.YtlifdpaamcdmfaaDoorPTwidTellsx2
import Derived.Test.YtlifdpaamcdmfaaDoorPTwidTellsx4
namespace Go.Proofs.YtlifdpaamcdmfaaDoor.PTwidTells
open Go.RowKit Go.Proofs.YtlifdpaamcdmfaaDoorW.PrintWords Go.Proofs.YtlifdpaamcdmfaaDoorW.PrintLast Go.Proofs.YtlifdpaamcdmfaaDoorW.PrintMore
attribute [local go_sem] max2_int min2_int max_two min_two max_three min_three max_four min_four   -- for this text's walks alone
set_option linter.unusedVariables false
set_option linter.unusedSimpArgs false

/-! ### abacistlaw08_TwidTells: function 5 -/
def abacistlaw08_TwidTells.j0 : Nat → Int → Int → Int → Int → Int → Int → Bool → Option (Bool)
  | 0, _, _, _, _, _, _, _ => none
  | k + 1, x0, x1, x2, x3, x9, x10, x47 => if x47 = true then (if x10 = 2 then (some (x9 == 0)) else (some false)) else (if x10 = 0 then ((abacistref08_Root.f k x2 x3).bind fun t221 => ((abacistref02_Pow.f k t221 (IntKind.u64.wrap (x0))).bind fun t222 => ((abacistref02_Pow.f k t222 (IntKind.u64.wrap (x1))).bind fun t223 => (some (x9 == t223))))) else (some false))
def abacistlaw08_TwidTells.f (k : Nat) (a0 : Int) (a1 : Int) (a2 : Int) (a3 : Int) : Option (Bool) := (abacistlaw08_awake.f k).bind fun t217 => (if t217 = true then ((twid_Twiddle.f k a0 a1 a2 a3).bind fun bt218 => ((abacistlaw08_wrong.f k a2 a3).bind fun t220 => (if t220 = 0 then (if a0 < 0 then (abacistlaw08_TwidTells.j0 k a0 a1 a2 a3 bt218.1 bt218.2 true) else (if a1 < 0 then (abacistlaw08_TwidTells.j0 k a0 a1 a2 a3 bt218.1 bt218.2 true) else (if a0 > 4294967295 then (abacistlaw08_TwidTells.j0 k a0 a1 a2 a3 bt218.1 bt218.2 true) else (abacistlaw08_TwidTells.j0 k a0 a1 a2 a3 bt218.1 bt218.2 (decide (a1 > 4294967295)))))) else (if bt218.2 = t220 then (some (bt218.1 == 0)) else (some false))))) else (some false))
theorem abacistlaw08_TwidTells.mono_l : ∀ k, (∀ y0 y1 y2 y3 y4 y5 y6, LeO (abacistlaw08_TwidTells.j0 k y0 y1 y2 y3 y4 y5 y6) (abacistlaw08_TwidTells.j0 (k + 1) y0 y1 y2 y3 y4 y5 y6))
  | 0 => fun _ _ _ _ _ _ _ r h => by simp [abacistlaw08_TwidTells.j0] at h
  | k + 1 => by
    have ih0 := abacistlaw08_TwidTells.mono_l k
    · intro y0 y1 y2 y3 y4 y5 y6
      unfold abacistlaw08_TwidTells.j0
      repeat' first
      | (with_reducible exact ih0 _ _ _ _ _ _ _)
      | (with_reducible exact abacistlaw08_awake.mono _)
      | (with_reducible exact abacistlaw08_wrong.mono _ _ _)
      | (with_reducible exact abacistref02_Pow.mono _ _ _)
      | (with_reducible exact abacistref08_Root.mono _ _ _)
      | (with_reducible exact twid_Twiddle.mono _ _ _ _ _)
      | (with_reducible exact LeO.refl _)
      | (with_reducible exact LeO.none _)
      | (with_reducible refine LeO.ite ?_ ?_)
      | (with_reducible refine LeO.bind ?_ (fun _ => ?_))
      | exact ih0 _ _ _ _ _ _ _
      | exact abacistlaw08_awake.mono _
      | exact abacistlaw08_wrong.mono _ _ _
      | exact abacistref02_Pow.mono _ _ _
      | exact abacistref08_Root.mono _ _ _
      | exact twid_Twiddle.mono _ _ _ _ _
      | exact LeO.none _
      | refine LeO.ite ?_ ?_
      | refine LeO.bind ?_ (fun _ => ?_)
theorem abacistlaw08_TwidTells.mono : ∀ a0 a1 a2 a3 k, LeO (abacistlaw08_TwidTells.f k a0 a1 a2 a3) (abacistlaw08_TwidTells.f (k + 1) a0 a1 a2 a3) := by
  intro a0 a1 a2 a3 k
  have ih0 := abacistlaw08_TwidTells.mono_l k
  unfold abacistlaw08_TwidTells.f
  repeat' first
      | (with_reducible exact ih0 _ _ _ _ _ _ _)
      | (with_reducible exact abacistlaw08_awake.mono _)
      | (with_reducible exact abacistlaw08_wrong.mono _ _ _)
      | (with_reducible exact abacistref02_Pow.mono _ _ _)
      | (with_reducible exact abacistref08_Root.mono _ _ _)
      | (with_reducible exact twid_Twiddle.mono _ _ _ _ _)
      | (with_reducible exact LeO.refl _)
      | (with_reducible exact LeO.none _)
      | (with_reducible refine LeO.ite ?_ ?_)
      | (with_reducible refine LeO.bind ?_ (fun _ => ?_))
      | exact ih0 _ _ _ _ _ _ _
      | exact abacistlaw08_awake.mono _
      | exact abacistlaw08_wrong.mono _ _ _
      | exact abacistref02_Pow.mono _ _ _
      | exact abacistref08_Root.mono _ _ _
      | exact twid_Twiddle.mono _ _ _ _ _
      | exact LeO.none _
      | refine LeO.ite ?_ ?_
      | refine LeO.bind ?_ (fun _ => ?_)
set_option maxHeartbeats 80000000 in
set_option maxRecDepth 100000 in
theorem abacistlaw08_TwidTells.calls (k : Nat) (a0 : Int) (a1 : Int) (a2 : Int) (a3 : Int) (r : Bool) (hr_ : Aside0 (r = true)) (w : World) (hG : Aside0 (TzTab w)) (h : abacistlaw08_TwidTells.f k a0 a1 a2 a3 = some r) :
    Calls Tryd.prog 5 #[.int .i64 a0, .int .i64 a1, .int .i64 a2, .int .i64 a3] w fun e w' => e = .returned (.bool r) ∧ Below w.heap.size w w' := by
  have HB := Aside0.mk (Below.refl w.heap.size w)
  have H : ((abacistlaw08_awake.f k).bind fun t217 => (if t217 = true then ((twid_Twiddle.f k a0 a1 a2 a3).bind fun bt218 => ((abacistlaw08_wrong.f k a2 a3).bind fun t220 => (if t220 = 0 then (if a0 < 0 then (abacistlaw08_TwidTells.j0 k a0 a1 a2 a3 bt218.1 bt218.2 true) else (if a1 < 0 then (abacistlaw08_TwidTells.j0 k a0 a1 a2 a3 bt218.1 bt218.2 true) else (if a0 > 4294967295 then (abacistlaw08_TwidTells.j0 k a0 a1 a2 a3 bt218.1 bt218.2 true) else (abacistlaw08_TwidTells.j0 k a0 a1 a2 a3 bt218.1 bt218.2 (decide (a1 > 4294967295)))))) else (if bt218.2 = t220 then (some (bt218.1 == 0)) else (some false))))) else (some false))) = some r := h
  clear h
  replace H := Option.bind_eq_some_iff.mp H
  obtain ⟨t217, A50, H⟩ := H
  replace H : (if t217 = true then ((twid_Twiddle.f k a0 a1 a2 a3).bind fun bt218 => ((abacistlaw08_wrong.f k a2 a3).bind fun t220 => (if t220 = 0 then (if a0 < 0 then (abacistlaw08_TwidTells.j0 k a0 a1 a2 a3 bt218.1 bt218.2 true) else (if a1 < 0 then (abacistlaw08_TwidTells.j0 k a0 a1 a2 a3 bt218.1 bt218.2 true) else (if a0 > 4294967295 then (abacistlaw08_TwidTells.j0 k a0 a1 a2 a3 bt218.1 bt218.2 true) else (abacistlaw08_TwidTells.j0 k a0 a1 a2 a3 bt218.1 bt218.2 (decide (a1 > 4294967295)))))) else (if bt218.2 = t220 then (some (bt218.1 == 0)) else (some false))))) else (some false)) = some r := H
  have A5 := Aside0.mk A50
  clear A50
  by_cases c6 : t217 = true
  · subst c6
    have H1 : ((twid_Twiddle.f k a0 a1 a2 a3).bind fun bt218 => ((abacistlaw08_wrong.f k a2 a3).bind fun t220 => (if t220 = 0 then (if a0 < 0 then (abacistlaw08_TwidTells.j0 k a0 a1 a2 a3 bt218.1 bt218.2 true) else (if a1 < 0 then (abacistlaw08_TwidTells.j0 k a0 a1 a2 a3 bt218.1 bt218.2 true) else (if a0 > 4294967295 then (abacistlaw08_TwidTells.j0 k a0 a1 a2 a3 bt218.1 bt218.2 true) else (abacistlaw08_TwidTells.j0 k a0 a1 a2 a3 bt218.1 bt218.2 (decide (a1 > 4294967295)))))) else (if bt218.2 = t220 then (some (bt218.1 == 0)) else (some false))))) = some r := by rw [if_pos rfl] at H; exact H
    clear H
    have H := H1
    clear H1
    replace H := Option.bind_eq_some_iff.mp H
    obtain ⟨⟨t218, t219⟩, A70, H⟩ := H
    replace H : ((abacistlaw08_wrong.f k a2 a3).bind fun t220 => (if t220 = 0 then (if a0 < 0 then (abacistlaw08_TwidTells.j0 k a0 a1 a2 a3 t218 t219 true) else (if a1 < 0 then (abacistlaw08_TwidTells.j0 k a0 a1 a2 a3 t218 t219 true) else (if a0 > 4294967295 then (abacistlaw08_TwidTells.j0 k a0 a1 a2 a3 t218 t219 true) else (abacistlaw08_TwidTells.j0 k a0 a1 a2 a3 t218 t219 (decide (a1 > 4294967295)))))) else (if t219 = t220 then (some (t218 == 0)) else (some false)))) = some r := H
    have A7 := Aside0.mk A70
    clear A70
    replace H := Option.bind_eq_some_iff.mp H
    obtain ⟨t220, A80, H⟩ := H
    replace H : (if t220 = 0 then (if a0 < 0 then (abacistlaw08_TwidTells.j0 k a0 a1 a2 a3 t218 t219 true) else (if a1 < 0 then (abacistlaw08_TwidTells.j0 k a0 a1 a2 a3 t218 t219 true) else (if a0 > 4294967295 then (abacistlaw08_TwidTells.j0 k a0 a1 a2 a3 t218 t219 true) else (abacistlaw08_TwidTells.j0 k a0 a1 a2 a3 t218 t219 (decide (a1 > 4294967295)))))) else (if t219 = t220 then (some (t218 == 0)) else (some false))) = some r := H
    have A8 := Aside0.mk A80
    clear A80
    by_cases c9 : t220 = 0
    · rw [if_pos c9] at H
      have c9b0 : (t220 == 0) = true := beq_iff_eq.mpr c9
      have c9b1 : (t220 != 0) = false := bne_eq_false_iff_eq.mpr c9
      clear c9
      have HC10 := Aside0.mk H
      clear H
      go_enter Tryd.func5, Tryd.ntmps5
      go_upto_region 7 with (first | ((with_reducible refine gate_callee (f := 8) rfl ?_); refine goesL_ (some 12) rfl rfl Tryd.func8 (by kernel_rfl) rfl #[] rfl (by (try simp only [List.map_toArray, List.map_cons, List.map_nil]); first | done | rfl | (simp only [List.length_drop, List.length_take]; rfl)) ?_; (with_reducible refine (abacistlaw08_awake.calls k  true _ ?sideG A5.out).mono ?_); (case sideG => first | exact hG | exact ⟨hG.out⟩ | exact ⟨hG.out.below (by repeat (first | (with_reducible first | exact HB.out | apply below_alloc | apply pw_below_drewN | apply below_drew1) | exact HB.out))⟩); rintro e w11 ⟨rfl, hb⟩; refine ⟨_, rfl, ?_⟩; have n0_ := Aside0.mk (below_step (by repeat (first | (with_reducible first | exact HB.out | apply below_alloc | apply pw_below_drewN | apply below_drew1) | exact HB.out)) hb); clear HB; have HB := n0_; clear n0_; (try clear hb); (try clear hb2); (try clear hk); (try clear hi)) | (go_at_call 8; (with_reducible refine (abacistlaw08_awake.calls k  true _ ?sideG A5.out).mono ?_); (case sideG => first | exact hG | exact ⟨hG.out⟩ | exact ⟨hG.out.below (by repeat (first | (with_reducible first | exact HB.out | apply below_alloc | apply pw_below_drewN | apply below_drew1) | exact HB.out))⟩); rintro e w11 ⟨rfl, hb⟩; have n0_ := Aside0.mk (below_step (by repeat (first | (with_reducible first | exact HB.out | apply below_alloc | apply pw_below_drewN | apply below_drew1) | exact HB.out)) hb); clear HB; have HB := n0_; clear n0_; (try clear hb); (try clear hb2); (try clear hk); (try clear hi)) | ((with_reducible refine gate_callee (f := 23) rfl ?_); refine goesL_ (some 19) rfl rfl Tryd.func23 (by kernel_rfl) rfl #[.int .i64 a0, .int .i64 a1, .int .i64 a2, .int .i64 a3] rfl (by (try simp only [List.map_toArray, List.map_cons, List.map_nil]); first | done | rfl | (simp only [List.length_drop, List.length_take]; rfl)) ?_; (with_reducible refine (twid_Twiddle.calls k a0 a1 a2 a3 t218 t219 _ A7.out).mono ?_); rintro e w12 ⟨rfl, hb⟩; refine ⟨_, rfl, ?_⟩; have n0_ := Aside0.mk (below_step (by repeat (first | (with_reducible first | exact HB.out | apply below_alloc | apply pw_below_drewN | apply below_drew1) | exact HB.out)) hb); clear HB; have HB := n0_; clear n0_; (try clear hb); (try clear hb2); (try clear hk); (try clear hi)) | (go_at_call 23; (with_reducible refine (twid_Twiddle.calls k a0 a1 a2 a3 t218 t219 _ A7.out).mono ?_); rintro e w12 ⟨rfl, hb⟩; have n0_ := Aside0.mk (below_step (by repeat (first | (with_reducible first | exact HB.out | apply below_alloc | apply pw_below_drewN | apply below_drew1) | exact HB.out)) hb); clear HB; have HB := n0_; clear n0_; (try clear hb); (try clear hb2); (try clear hk); (try clear hi)) | ((with_reducible refine gate_callee (f := 18) rfl ?_); refine goesL_ (some 24) rfl rfl Tryd.func18 (by kernel_rfl) rfl #[.int .i64 a2, .int .i64 a3] rfl (by (try simp only [List.map_toArray, List.map_cons, List.map_nil]); first | done | rfl | (simp only [List.length_drop, List.length_take]; rfl)) ?_; (with_reducible refine (abacistlaw08_wrong.calls k a2 a3 t220 _ A8.out).mono ?_); rintro e w' ⟨rfl, ⟨nd, rfl⟩⟩; refine ⟨_, rfl, ?_⟩) | (go_at_call 18; (with_reducible refine (abacistlaw08_wrong.calls k a2 a3 t220 _ A8.out).mono ?_); rintro e w' ⟨rfl, ⟨nd, rfl⟩⟩))
      (try simp only [Act.put, List.setIfInBounds_toArray, List.set_cons_zero, List.set_cons_succ])
      go_cut [47] (fun v47 wc => ∃ (kq : Nat) (x47_9 : Bool), v47 = .bool x47_9 ∧ Aside0 (abacistlaw08_TwidTells.j0 kq a0 a1 a2 a3 t218 t219 x47_9 = some r) ∧ Aside0 (kq ≤ k) ∧ Aside0 (Below w.heap.size w wc))
      case first =>
        have H := HC10.out
        clear HC10
        by_cases c13 : a0 < 0
        · rw [if_pos c13] at H
          have c13b0 : decide (a0 < 0) = true := decide_eq_true c13
          clear c13
          (first | rw [c13b0] | (simp only [i64_w, i32_w]; rw [c13b0]) | skip)
          have H' := Aside0.mk H
          clear H
          go_wp2
          go_meet
          case rel => exact ⟨_, (true), (by first | rfl | (simp; done) | (simp [*]; done)), H', ⟨by first | omega | exact Nat.le_refl _⟩, ⟨by repeat (first | (with_reducible first | exact HB.out | apply below_alloc | apply pw_below_drewN | apply below_drew1) | exact HB.out)⟩⟩
        · rw [if_neg c13] at H
          have c13b0 : decide (a0 < 0) = false := decide_eq_false c13
          clear c13
          (first | rw [c13b0] | (simp only [i64_w, i32_w]; rw [c13b0]) | skip)
          by_cases c14 : a1 < 0
          · rw [if_pos c14] at H
            have c14b0 : decide (a1 < 0) = true := decide_eq_true c14
            clear c14
            have H' := Aside0.mk H
            clear H
            go_wp2
            go_meet
            case rel => exact ⟨_, (true), (by first | rfl | (simp; done) | (simp [*]; done)), H', ⟨by first | omega | exact Nat.le_refl _⟩, ⟨by repeat (first | (with_reducible first | exact HB.out | apply below_alloc | apply pw_below_drewN | apply below_drew1) | exact HB.out)⟩⟩
          · rw [if_neg c14] at H
            have c14b0 : decide (a1 < 0) = false := decide_eq_false c14
            clear c14
            by_cases c15 : a0 > 4294967295
            · rw [if_pos c15] at H
              have c15b0 : decide (4294967295 < a0) = true := decide_eq_true c15
              clear c15
              have H' := Aside0.mk H
              clear H
              go_wp2
              go_meet
              case rel => exact ⟨_, (true), (by first | rfl | (simp; done) | (simp [*]; done)), H', ⟨by first | omega | exact Nat.le_refl _⟩, ⟨by repeat (first | (with_reducible first | exact HB.out | apply below_alloc | apply pw_below_drewN | apply below_drew1) | exact HB.out)⟩⟩
            · rw [if_neg c15] at H
              have c15b0 : decide (4294967295 < a0) = false := decide_eq_false c15
              clear c15
              have H' := Aside0.mk H
              clear H
              go_wp2
              go_meet
              case rel => exact ⟨_, (decide (a1 > 4294967295)), (by first | rfl | (simp; done) | (simp [*]; done)), H', ⟨by first | omega | exact Nat.le_refl _⟩, ⟨by repeat (first | (with_reducible first | exact HB.out | apply below_alloc | apply pw_below_drewN | apply below_drew1) | exact HB.out)⟩⟩
      case rest =>
        clear HC10
        try clear c1
        try clear c2
        try clear p2
        try clear c5
        try clear c6
        try clear c8
        try clear c9
        try clear c9b0
        try clear c9b1
        try clear c13
        try clear c13b0
        try clear c14
        try clear c14b0
        try clear c15
        try clear c15b0
        obtain ⟨kq, x47_9, rfl, HA, HJ9, HB⟩ := hcut
        cases kq with
        | zero => exact absurd HA.out (by simp [abacistlaw08_TwidTells.j0])
        | succ kj9 =>
          have H := HA.out
          clear HA
          simp only [abacistlaw08_TwidTells.j0] at H
          by_cases c16 : x47_9 = true
          · subst c16
            have H1 : (if t219 = 2 then (some (t218 == 0)) else (some false)) = some r := by rw [if_pos rfl] at H; exact H
            clear H
            have H := H1
            clear H1
            by_cases c17 : t219 = 2
            · rw [if_pos c17] at H
              have c17b0 : (t219 == 2) = true := beq_iff_eq.mpr c17
              have c17b1 : (t219 != 2) = false := bne_eq_false_iff_eq.mpr c17
              clear c17
              obtain rfl := Option.some.inj H
              go_wp2
              go_ret
              exact ⟨by first | rfl | (simp [errW_none, errW_some] <;> rfl) | (simp [*, errW_none, errW_some] <;> rfl), by repeat (first | (with_reducible first | exact HB.out | apply below_alloc | apply pw_below_drewN | apply below_drew1) | exact HB.out)⟩
            · rw [if_neg c17] at H
              have c17b0 : (t219 == 2) = false := beq_eq_false_iff_ne.mpr c17
              have c17b1 : (t219 != 2) = true := bne_iff_ne.mpr c17
              obtain rfl := Option.some.inj H
              exact absurd hr_.out (by decide)
          · replace c16 := Bool.eq_false_iff.mpr c16
            subst c16
            have H1 : (if t219 = 0 then ((abacistref08_Root.f kj9 a2 a3).bind fun t221 => ((abacistref02_Pow.f kj9 t221 (IntKind.u64.wrap (a0))).bind fun t222 => ((abacistref02_Pow.f kj9 t222 (IntKind.u64.wrap (a1))).bind fun t223 => (some (t218 == t223))))) else (some false)) = some r := by rw [if_neg (show ¬ (false = true) by decide)] at H; exact H
            clear H
            have H := H1
            clear H1
            by_cases c18 : t219 = 0
            · rw [if_pos c18] at H
              have c18b0 : (t219 == 0) = true := beq_iff_eq.mpr c18
              have c18b1 : (t219 != 0) = false := bne_eq_false_iff_eq.mpr c18
              clear c18
              replace H := Option.bind_eq_some_iff.mp H
              obtain ⟨t221, A190, H⟩ := H
              replace H : ((abacistref02_Pow.f kj9 t221 (IntKind.u64.wrap (a0))).bind fun t222 => ((abacistref02_Pow.f kj9 t222 (IntKind.u64.wrap (a1))).bind fun t223 => (some (t218 == t223)))) = some r := H
              have A19 := Aside0.mk A190
              clear A190
              replace H := Option.bind_eq_some_iff.mp H
              obtain ⟨t222, A200, H⟩ := H
              replace H : ((abacistref02_Pow.f kj9 t222 (IntKind.u64.wrap (a1))).bind fun t223 => (some (t218 == t223))) = some r := H
              have A20 := Aside0.mk A200
              clear A200
              replace H := Option.bind_eq_some_iff.mp H
              obtain ⟨t223, A210, H⟩ := H
              replace H : (some (t218 == t223)) = some r := H
              have A21 := Aside0.mk A210
              clear A210
              obtain rfl := Option.some.inj H
              go_wp2_with (first | (go_at_call 21; (with_reducible refine (abacistref08_Root.calls kj9 a2 a3 t221 _ A19.out).mono ?_); rintro e w' ⟨rfl, ⟨nd, rfl⟩⟩) | (go_at_call 24; (with_reducible refine (abacistref02_Pow.calls kj9 t221 (IntKind.u64.wrap (a0)) t222 _ A20.out).mono ?_); rintro e w' ⟨rfl, ⟨nd, rfl⟩⟩) | (go_at_call 24; (with_reducible refine (abacistref02_Pow.calls kj9 t222 (IntKind.u64.wrap (a1)) t223 _ A21.out).mono ?_); rintro e w' ⟨rfl, ⟨nd, rfl⟩⟩))
              go_ret
              exact ⟨by first | rfl | (simp [errW_none, errW_some] <;> rfl) | (simp [*, errW_none, errW_some] <;> rfl), by repeat (first | (with_reducible first | exact HB.out | apply below_alloc | apply pw_below_drewN | apply below_drew1) | exact HB.out)⟩
            · rw [if_neg c18] at H
              have c18b0 : (t219 == 0) = false := beq_eq_false_iff_ne.mpr c18
              have c18b1 : (t219 != 0) = true := bne_iff_ne.mpr c18
              obtain rfl := Option.some.inj H
              exact absurd hr_.out (by decide)
    · rw [if_neg c9] at H
      have c9b0 : (t220 == 0) = false := beq_eq_false_iff_ne.mpr c9
      have c9b1 : (t220 != 0) = true := bne_iff_ne.mpr c9
      by_cases c22 : t219 = t220
      · rw [if_pos c22] at H
        have c22b0 : (t219 == t220) = true := beq_iff_eq.mpr c22
        have c22b1 : (t219 != t220) = false := bne_eq_false_iff_eq.mpr c22
        clear c22
        obtain rfl := Option.some.inj H
        go_enter Tryd.func5, Tryd.ntmps5
        go_wp2_with (first | ((with_reducible refine gate_callee (f := 8) rfl ?_); refine goesL_ (some 12) rfl rfl Tryd.func8 (by kernel_rfl) rfl #[] rfl (by (try simp only [List.map_toArray, List.map_cons, List.map_nil]); first | done | rfl | (simp only [List.length_drop, List.length_take]; rfl)) ?_; (with_reducible refine (abacistlaw08_awake.calls k  true _ ?sideG A5.out).mono ?_); (case sideG => first | exact hG | exact ⟨hG.out⟩ | exact ⟨hG.out.below (by repeat (first | (with_reducible first | exact HB.out | apply below_alloc | apply pw_below_drewN | apply below_drew1) | exact HB.out))⟩); rintro e w23 ⟨rfl, hb⟩; refine ⟨_, rfl, ?_⟩; have n0_ := Aside0.mk (below_step (by repeat (first | (with_reducible first | exact HB.out | apply below_alloc | apply pw_below_drewN | apply below_drew1) | exact HB.out)) hb); clear HB; have HB := n0_; clear n0_; (try clear hb); (try clear hb2); (try clear hk); (try clear hi)) | (go_at_call 8; (with_reducible refine (abacistlaw08_awake.calls k  true _ ?sideG A5.out).mono ?_); (case sideG => first | exact hG | exact ⟨hG.out⟩ | exact ⟨hG.out.below (by repeat (first | (with_reducible first | exact HB.out | apply below_alloc | apply pw_below_drewN | apply below_drew1) | exact HB.out))⟩); rintro e w23 ⟨rfl, hb⟩; have n0_ := Aside0.mk (below_step (by repeat (first | (with_reducible first | exact HB.out | apply below_alloc | apply pw_below_drewN | apply below_drew1) | exact HB.out)) hb); clear HB; have HB := n0_; clear n0_; (try clear hb); (try clear hb2); (try clear hk); (try clear hi)) | ((with_reducible refine gate_callee (f := 23) rfl ?_); refine goesL_ (some 19) rfl rfl Tryd.func23 (by kernel_rfl) rfl #[.int .i64 a0, .int .i64 a1, .int .i64 a2, .int .i64 a3] rfl (by (try simp only [List.map_toArray, List.map_cons, List.map_nil]); first | done | rfl | (simp only [List.length_drop, List.length_take]; rfl)) ?_; (with_reducible refine (twid_Twiddle.calls k a0 a1 a2 a3 t218 t219 _ A7.out).mono ?_); rintro e w24 ⟨rfl, hb⟩; refine ⟨_, rfl, ?_⟩; have n0_ := Aside0.mk (below_step (by repeat (first | (with_reducible first | exact HB.out | apply below_alloc | apply pw_below_drewN | apply below_drew1) | exact HB.out)) hb); clear HB; have HB := n0_; clear n0_; (try clear hb); (try clear hb2); (try clear hk); (try clear hi)) | (go_at_call 23; (with_reducible refine (twid_Twiddle.calls k a0 a1 a2 a3 t218 t219 _ A7.out).mono ?_); rintro e w24 ⟨rfl, hb⟩; have n0_ := Aside0.mk (below_step (by repeat (first | (with_reducible first | exact HB.out | apply below_alloc | apply pw_below_drewN | apply below_drew1) | exact HB.out)) hb); clear HB; have HB := n0_; clear n0_; (try clear hb); (try clear hb2); (try clear hk); (try clear hi)) | ((with_reducible refine gate_callee (f := 18) rfl ?_); refine goesL_ (some 24) rfl rfl Tryd.func18 (by kernel_rfl) rfl #[.int .i64 a2, .int .i64 a3] rfl (by (try simp only [List.map_toArray, List.map_cons, List.map_nil]); first | done | rfl | (simp only [List.length_drop, List.length_take]; rfl)) ?_; (with_reducible refine (abacistlaw08_wrong.calls k a2 a3 t220 _ A8.out).mono ?_); rintro e w' ⟨rfl, ⟨nd, rfl⟩⟩; refine ⟨_, rfl, ?_⟩) | (go_at_call 18; (with_reducible refine (abacistlaw08_wrong.calls k a2 a3 t220 _ A8.out).mono ?_); rintro e w' ⟨rfl, ⟨nd, rfl⟩⟩))
        go_ret
        exact ⟨by first | rfl | (simp [errW_none, errW_some] <;> rfl) | (simp [*, errW_none, errW_some] <;> rfl), by repeat (first | (with_reducible first | exact HB.out | apply below_alloc | apply pw_below_drewN | apply below_drew1) | exact HB.out)⟩
      · rw [if_neg c22] at H
        have c22b0 : (t219 == t220) = false := beq_eq_false_iff_ne.mpr c22
        have c22b1 : (t219 != t220) = true := bne_iff_ne.mpr c22
        obtain rfl := Option.some.inj H
        exact absurd hr_.out (by decide)
  · replace c6 := Bool.eq_false_iff.mpr c6
    subst c6
    have H1 : (some false) = some r := by rw [if_neg (show ¬ (false = true) by decide)] at H; exact H
    clear H
    have H := H1
    clear H1
    obtain rfl := Option.some.inj H
    exact absurd hr_.out (by decide)

/-- THE ONE PURE STATEMENT of abacistlaw08_TwidTells: yours. -/
def abacistlaw08_TwidTells.Pure : Prop := ∀ (a0 : Int) (a1 : Int) (a2 : Int) (a3 : Int), (Lit.int .i64 a0).wf = true → (Lit.int .i64 a1).wf = true → (Lit.int .i64 a2).wf = true → (Lit.int .i64 a3).wf = true → ∃ k, abacistlaw08_TwidTells.f k a0 a1 a2 a3 = some true
theorem abacistlaw08_TwidTells.walk (P : abacistlaw08_TwidTells.Pure) (a0 : Int) (a1 : Int) (a2 : Int) (a3 : Int) (w : World) (hG : Aside0 (TzTab w)) (w0 : (Lit.int .i64 a0).wf = true) (w1 : (Lit.int .i64 a1).wf = true) (w2 : (Lit.int .i64 a2).wf = true) (w3 : (Lit.int .i64 a3).wf = true) :
    Calls Tryd.prog 5 #[.int .i64 a0, .int .i64 a1, .int .i64 a2, .int .i64 a3] w fun e w' => e = .returned (.bool true) ∧ Below w.heap.size w w' := by
  obtain ⟨k, h⟩ := P a0 a1 a2 a3 w0 w1 w2 w3
  refine (abacistlaw08_TwidTells.calls k a0 a1 a2 a3 true ⟨rfl⟩ w hG h).mono ?_
  rintro e w' ⟨rfl, hd⟩
  exact ⟨rfl, hd⟩

end Go.Proofs.YtlifdpaamcdmfaaDoor.PTwidTells
