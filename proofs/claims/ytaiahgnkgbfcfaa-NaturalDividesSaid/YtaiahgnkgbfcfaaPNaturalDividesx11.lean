-- Written for this claim by wip/gen/mk.sh, this session's own driver over the kit's print
import Derived.Test.YtaiahgnkgbfcfaaPNaturalDividesx0
import Derived.Test.YtaiahgnkgbfcfaaPNaturalDividesx1
import Derived.Test.YtaiahgnkgbfcfaaPNaturalDividesx7
import Derived.Test.YtaiahgnkgbfcfaaPNaturalDividesx8
import Derived.Test.YtaiahgnkgbfcfaaPNaturalDividesx9
import Derived.Test.YtaiahgnkgbfcfaaPNaturalDividesx10
namespace Go.Proofs.Ytaiahgnkgbfcfaa.PNaturalDivides
open Go.RowKit Go.Proofs.YtaiahgnkgbfcfaaW.PrintWords Go.Proofs.YtaiahgnkgbfcfaaW.PrintLast Go.Proofs.YtaiahgnkgbfcfaaW.PrintMore
attribute [local go_sem] max2_int min2_int max_two min_two max_three min_three max_four min_four   -- for this text's walks alone
set_option linter.unusedVariables false
set_option linter.unusedSimpArgs false

/-! ### abacistlaw31_NaturalDivides: function 8 -/
def abacistlaw31_NaturalDivides.j0 : Nat → List Int → Int → List Int → Int → Int → Bool → Option (Bool)
  | 0, _, _, _, _, _, _ => none
  | k + 1, x0, x1, x5, x6, x7, x90 => if x90 = true then (some false) else (if x1 = 0 then (some (x7 == 13)) else (if x1 > 4294967296 then (some (x7 == 1)) else (if x7 = 0 then ((abacistref31_Good.f k x5).bind fun t390 => (if t390 = true then (if x6 < x1 then ((natural_Of.f k x1).bind fun t391 => ((abacistref31_Mul.f k x5 t391).bind fun t394 => ((natural_Of.f k x6).bind fun t397 => ((abacistref31_Add.f k t394 t397).bind fun t400 => ((abacistref04_Same.f k t400 x0).bind fun t403 => (some t403)))))) else (some false)) else (some false))) else (some false))))
def abacistlaw31_NaturalDivides.f (k : Nat) (l0 : List Int) (a1 : Int) : Option (Bool) := (abacistlaw31_awake.f k).bind fun t357 => (if t357 = true then (if (l0.length : Int) > 30 then (some true) else ((natural_DivSmall.f k l0 a1).bind fun bt358 => ((natural_Root.f k l0).bind fun bt363 => ((abacistref31_Good.f k l0).bind fun t370 => (if t370 = true then ((abacistref31_Add.f k bt363.1 (([1] : List Int))).bind fun t374 => (if bt363.2.2 = 0 then ((abacistref31_Good.f k bt363.1).bind fun t377 => (if t377 = true then ((abacistref31_Good.f k bt363.2.1).bind fun t378 => (if t378 = true then ((abacistref31_Mul.f k bt363.1 bt363.1).bind fun t379 => ((abacistref31_Add.f k t379 bt363.2.1).bind fun t382 => ((abacistref04_Same.f k t382 l0).bind fun t385 => (if t385 = true then ((abacistref31_Mul.f k t374 t374).bind fun t386 => ((abacistref31_Less.f k l0 t386).bind fun t389 => (abacistlaw31_NaturalDivides.j0 k l0 a1 bt358.1 bt358.2.1 bt358.2.2 (!t389)))) else (abacistlaw31_NaturalDivides.j0 k l0 a1 bt358.1 bt358.2.1 bt358.2.2 true))))) else (abacistlaw31_NaturalDivides.j0 k l0 a1 bt358.1 bt358.2.1 bt358.2.2 true))) else (abacistlaw31_NaturalDivides.j0 k l0 a1 bt358.1 bt358.2.1 bt358.2.2 true))) else (abacistlaw31_NaturalDivides.j0 k l0 a1 bt358.1 bt358.2.1 bt358.2.2 true))) else (if bt358.2.2 = 10 then (if bt363.2.2 = 10 then (if (bt358.1.length : Int) = 0 then (if bt358.2.1 = 0 then (if (bt363.1.length : Int) = 0 then (some ((bt363.2.1.length : Int) == 0)) else (some false)) else (some false)) else (some false)) else (some false)) else (some false))))))) else (some false))
theorem abacistlaw31_NaturalDivides.mono_l : ∀ k, (∀ y0 y1 y2 y3 y4 y5, LeO (abacistlaw31_NaturalDivides.j0 k y0 y1 y2 y3 y4 y5) (abacistlaw31_NaturalDivides.j0 (k + 1) y0 y1 y2 y3 y4 y5))
  | 0 => fun _ _ _ _ _ _ r h => by simp [abacistlaw31_NaturalDivides.j0] at h
  | k + 1 => by
    have ih0 := abacistlaw31_NaturalDivides.mono_l k
    · intro y0 y1 y2 y3 y4 y5
      unfold abacistlaw31_NaturalDivides.j0
      repeat' first
      | (with_reducible exact ih0 _ _ _ _ _ _)
      | (with_reducible exact abacistlaw31_awake.mono _)
      | (with_reducible exact abacistref04_Same.mono _ _ _)
      | (with_reducible exact abacistref31_Add.mono _ _ _)
      | (with_reducible exact abacistref31_Good.mono _ _)
      | (with_reducible exact abacistref31_Less.mono _ _ _)
      | (with_reducible exact abacistref31_Mul.mono _ _ _)
      | (with_reducible exact natural_DivSmall.mono _ _ _)
      | (with_reducible exact natural_Of.mono _ _)
      | (with_reducible exact natural_Root.mono _ _)
      | (with_reducible exact LeO.refl _)
      | (with_reducible exact LeO.none _)
      | (with_reducible refine LeO.ite ?_ ?_)
      | (with_reducible refine LeO.bind ?_ (fun _ => ?_))
      | exact ih0 _ _ _ _ _ _
      | exact abacistlaw31_awake.mono _
      | exact abacistref04_Same.mono _ _ _
      | exact abacistref31_Add.mono _ _ _
      | exact abacistref31_Good.mono _ _
      | exact abacistref31_Less.mono _ _ _
      | exact abacistref31_Mul.mono _ _ _
      | exact natural_DivSmall.mono _ _ _
      | exact natural_Of.mono _ _
      | exact natural_Root.mono _ _
      | exact LeO.none _
      | refine LeO.ite ?_ ?_
      | refine LeO.bind ?_ (fun _ => ?_)
theorem abacistlaw31_NaturalDivides.mono : ∀ a0 a1 k, LeO (abacistlaw31_NaturalDivides.f k a0 a1) (abacistlaw31_NaturalDivides.f (k + 1) a0 a1) := by
  intro a0 a1 k
  have ih0 := abacistlaw31_NaturalDivides.mono_l k
  unfold abacistlaw31_NaturalDivides.f
  repeat' first
      | (with_reducible exact ih0 _ _ _ _ _ _)
      | (with_reducible exact abacistlaw31_awake.mono _)
      | (with_reducible exact abacistref04_Same.mono _ _ _)
      | (with_reducible exact abacistref31_Add.mono _ _ _)
      | (with_reducible exact abacistref31_Good.mono _ _)
      | (with_reducible exact abacistref31_Less.mono _ _ _)
      | (with_reducible exact abacistref31_Mul.mono _ _ _)
      | (with_reducible exact natural_DivSmall.mono _ _ _)
      | (with_reducible exact natural_Of.mono _ _)
      | (with_reducible exact natural_Root.mono _ _)
      | (with_reducible exact LeO.refl _)
      | (with_reducible exact LeO.none _)
      | (with_reducible refine LeO.ite ?_ ?_)
      | (with_reducible refine LeO.bind ?_ (fun _ => ?_))
      | exact ih0 _ _ _ _ _ _
      | exact abacistlaw31_awake.mono _
      | exact abacistref04_Same.mono _ _ _
      | exact abacistref31_Add.mono _ _ _
      | exact abacistref31_Good.mono _ _
      | exact abacistref31_Less.mono _ _ _
      | exact abacistref31_Mul.mono _ _ _
      | exact natural_DivSmall.mono _ _ _
      | exact natural_Of.mono _ _
      | exact natural_Root.mono _ _
      | exact LeO.none _
      | refine LeO.ite ?_ ?_
      | refine LeO.bind ?_ (fun _ => ?_)
set_option maxHeartbeats 80000000 in
set_option maxRecDepth 100000 in
theorem abacistlaw31_NaturalDivides.calls (k : Nat) (A0 : Option Addr) (c0 : Nat) (l0 : List Int) (a1 : Int) (r : Bool) (hr_ : Aside0 (r = true)) (w : World) (hr0 : Kd.C (Kd.int .u64) w A0 l0.length l0) (hc0 : l0.length ≤ c0) (h : abacistlaw31_NaturalDivides.f k l0 a1 = some r) :
    Calls Try.prog 8 #[.slice A0 l0.length c0, .int .u64 a1] w fun e w' => e = .returned (.bool r) ∧ Below w.heap.size w w' := by
  have HR0 := Aside0.mk hr0
  have HC0 := Aside0.mk hc0
  clear hr0 hc0
  have HB := Aside0.mk (Below.refl w.heap.size w)
  have H : ((abacistlaw31_awake.f k).bind fun t357 => (if t357 = true then (if (l0.length : Int) > 30 then (some true) else ((natural_DivSmall.f k l0 a1).bind fun bt358 => ((natural_Root.f k l0).bind fun bt363 => ((abacistref31_Good.f k l0).bind fun t370 => (if t370 = true then ((abacistref31_Add.f k bt363.1 (([1] : List Int))).bind fun t374 => (if bt363.2.2 = 0 then ((abacistref31_Good.f k bt363.1).bind fun t377 => (if t377 = true then ((abacistref31_Good.f k bt363.2.1).bind fun t378 => (if t378 = true then ((abacistref31_Mul.f k bt363.1 bt363.1).bind fun t379 => ((abacistref31_Add.f k t379 bt363.2.1).bind fun t382 => ((abacistref04_Same.f k t382 l0).bind fun t385 => (if t385 = true then ((abacistref31_Mul.f k t374 t374).bind fun t386 => ((abacistref31_Less.f k l0 t386).bind fun t389 => (abacistlaw31_NaturalDivides.j0 k l0 a1 bt358.1 bt358.2.1 bt358.2.2 (!t389)))) else (abacistlaw31_NaturalDivides.j0 k l0 a1 bt358.1 bt358.2.1 bt358.2.2 true))))) else (abacistlaw31_NaturalDivides.j0 k l0 a1 bt358.1 bt358.2.1 bt358.2.2 true))) else (abacistlaw31_NaturalDivides.j0 k l0 a1 bt358.1 bt358.2.1 bt358.2.2 true))) else (abacistlaw31_NaturalDivides.j0 k l0 a1 bt358.1 bt358.2.1 bt358.2.2 true))) else (if bt358.2.2 = 10 then (if bt363.2.2 = 10 then (if (bt358.1.length : Int) = 0 then (if bt358.2.1 = 0 then (if (bt363.1.length : Int) = 0 then (some ((bt363.2.1.length : Int) == 0)) else (some false)) else (some false)) else (some false)) else (some false)) else (some false))))))) else (some false))) = some r := h
  clear h
  replace H := Option.bind_eq_some_iff.mp H
  obtain ⟨t357, A30, H⟩ := H
  replace H : (if t357 = true then (if (l0.length : Int) > 30 then (some true) else ((natural_DivSmall.f k l0 a1).bind fun bt358 => ((natural_Root.f k l0).bind fun bt363 => ((abacistref31_Good.f k l0).bind fun t370 => (if t370 = true then ((abacistref31_Add.f k bt363.1 (([1] : List Int))).bind fun t374 => (if bt363.2.2 = 0 then ((abacistref31_Good.f k bt363.1).bind fun t377 => (if t377 = true then ((abacistref31_Good.f k bt363.2.1).bind fun t378 => (if t378 = true then ((abacistref31_Mul.f k bt363.1 bt363.1).bind fun t379 => ((abacistref31_Add.f k t379 bt363.2.1).bind fun t382 => ((abacistref04_Same.f k t382 l0).bind fun t385 => (if t385 = true then ((abacistref31_Mul.f k t374 t374).bind fun t386 => ((abacistref31_Less.f k l0 t386).bind fun t389 => (abacistlaw31_NaturalDivides.j0 k l0 a1 bt358.1 bt358.2.1 bt358.2.2 (!t389)))) else (abacistlaw31_NaturalDivides.j0 k l0 a1 bt358.1 bt358.2.1 bt358.2.2 true))))) else (abacistlaw31_NaturalDivides.j0 k l0 a1 bt358.1 bt358.2.1 bt358.2.2 true))) else (abacistlaw31_NaturalDivides.j0 k l0 a1 bt358.1 bt358.2.1 bt358.2.2 true))) else (abacistlaw31_NaturalDivides.j0 k l0 a1 bt358.1 bt358.2.1 bt358.2.2 true))) else (if bt358.2.2 = 10 then (if bt363.2.2 = 10 then (if (bt358.1.length : Int) = 0 then (if bt358.2.1 = 0 then (if (bt363.1.length : Int) = 0 then (some ((bt363.2.1.length : Int) == 0)) else (some false)) else (some false)) else (some false)) else (some false)) else (some false))))))) else (some false)) = some r := H
  have A3 := Aside0.mk A30
  clear A30
  by_cases c4 : t357 = true
  · subst c4
    have H1 : (if (l0.length : Int) > 30 then (some true) else ((natural_DivSmall.f k l0 a1).bind fun bt358 => ((natural_Root.f k l0).bind fun bt363 => ((abacistref31_Good.f k l0).bind fun t370 => (if t370 = true then ((abacistref31_Add.f k bt363.1 (([1] : List Int))).bind fun t374 => (if bt363.2.2 = 0 then ((abacistref31_Good.f k bt363.1).bind fun t377 => (if t377 = true then ((abacistref31_Good.f k bt363.2.1).bind fun t378 => (if t378 = true then ((abacistref31_Mul.f k bt363.1 bt363.1).bind fun t379 => ((abacistref31_Add.f k t379 bt363.2.1).bind fun t382 => ((abacistref04_Same.f k t382 l0).bind fun t385 => (if t385 = true then ((abacistref31_Mul.f k t374 t374).bind fun t386 => ((abacistref31_Less.f k l0 t386).bind fun t389 => (abacistlaw31_NaturalDivides.j0 k l0 a1 bt358.1 bt358.2.1 bt358.2.2 (!t389)))) else (abacistlaw31_NaturalDivides.j0 k l0 a1 bt358.1 bt358.2.1 bt358.2.2 true))))) else (abacistlaw31_NaturalDivides.j0 k l0 a1 bt358.1 bt358.2.1 bt358.2.2 true))) else (abacistlaw31_NaturalDivides.j0 k l0 a1 bt358.1 bt358.2.1 bt358.2.2 true))) else (abacistlaw31_NaturalDivides.j0 k l0 a1 bt358.1 bt358.2.1 bt358.2.2 true))) else (if bt358.2.2 = 10 then (if bt363.2.2 = 10 then (if (bt358.1.length : Int) = 0 then (if bt358.2.1 = 0 then (if (bt363.1.length : Int) = 0 then (some ((bt363.2.1.length : Int) == 0)) else (some false)) else (some false)) else (some false)) else (some false)) else (some false))))))) = some r := by rw [if_pos rfl] at H; exact H
    clear H
    have H := H1
    clear H1
    by_cases c5 : (l0.length : Int) > 30
    · rw [if_pos c5] at H
      have c5b0 : decide (30 < (l0.length : Int)) = true := decide_eq_true c5
      have c5b1 : decide (30 < l0.length) = true := decide_eq_true (by omega)
      clear c5
      obtain rfl := Option.some.inj H
      go_enter Try.func8, Try.ntmps8
      go_wp2_with (first | ((with_reducible refine gate_callee (f := 24) rfl ?_); refine goesL_ (some 12) rfl rfl Try.func24 (by kernel_rfl) rfl #[] rfl (by (try simp only [List.map_toArray, List.map_cons, List.map_nil]); first | done | rfl | (simp only [List.length_drop, List.length_take]; rfl)) ?_; (with_reducible refine (abacistlaw31_awake.calls k  true _ A3.out).mono ?_); rintro e w6 ⟨rfl, hb⟩; refine ⟨_, rfl, ?_⟩; have n0_ := Aside0.mk (below_step (by repeat (first | (with_reducible first | exact HB.out | apply below_alloc | apply pw_below_drewN | apply below_drew1) | exact HB.out)) hb); clear HB; have HB := n0_; clear n0_; (try clear hb); (try clear hb2); (try clear hk); (try clear hi)) | (go_at_call 24; (with_reducible refine (abacistlaw31_awake.calls k  true _ A3.out).mono ?_); rintro e w6 ⟨rfl, hb⟩; have n0_ := Aside0.mk (below_step (by repeat (first | (with_reducible first | exact HB.out | apply below_alloc | apply pw_below_drewN | apply below_drew1) | exact HB.out)) hb); clear HB; have HB := n0_; clear n0_; (try clear hb); (try clear hb2); (try clear hk); (try clear hi)))
      go_ret
      exact ⟨by first | rfl | (simp [errW_none, errW_some] <;> rfl) | (simp [*, errW_none, errW_some] <;> rfl), by repeat (first | (with_reducible first | exact HB.out | apply below_alloc | apply pw_below_drewN | apply below_drew1) | exact HB.out)⟩
    · rw [if_neg c5] at H
      have c5b0 : decide (30 < (l0.length : Int)) = false := decide_eq_false c5
      have c5b1 : decide (30 < l0.length) = false := decide_eq_false (by omega)
      clear c5
      replace H := Option.bind_eq_some_iff.mp H
      obtain ⟨⟨t358, t361, t362⟩, A70, H⟩ := H
      replace H : ((natural_Root.f k l0).bind fun bt363 => ((abacistref31_Good.f k l0).bind fun t370 => (if t370 = true then ((abacistref31_Add.f k bt363.1 (([1] : List Int))).bind fun t374 => (if bt363.2.2 = 0 then ((abacistref31_Good.f k bt363.1).bind fun t377 => (if t377 = true then ((abacistref31_Good.f k bt363.2.1).bind fun t378 => (if t378 = true then ((abacistref31_Mul.f k bt363.1 bt363.1).bind fun t379 => ((abacistref31_Add.f k t379 bt363.2.1).bind fun t382 => ((abacistref04_Same.f k t382 l0).bind fun t385 => (if t385 = true then ((abacistref31_Mul.f k t374 t374).bind fun t386 => ((abacistref31_Less.f k l0 t386).bind fun t389 => (abacistlaw31_NaturalDivides.j0 k l0 a1 t358 t361 t362 (!t389)))) else (abacistlaw31_NaturalDivides.j0 k l0 a1 t358 t361 t362 true))))) else (abacistlaw31_NaturalDivides.j0 k l0 a1 t358 t361 t362 true))) else (abacistlaw31_NaturalDivides.j0 k l0 a1 t358 t361 t362 true))) else (abacistlaw31_NaturalDivides.j0 k l0 a1 t358 t361 t362 true))) else (if t362 = 10 then (if bt363.2.2 = 10 then (if (t358.length : Int) = 0 then (if t361 = 0 then (if (bt363.1.length : Int) = 0 then (some ((bt363.2.1.length : Int) == 0)) else (some false)) else (some false)) else (some false)) else (some false)) else (some false))))) = some r := H
      have A7 := Aside0.mk A70
      clear A70
      replace H := Option.bind_eq_some_iff.mp H
      obtain ⟨⟨t363, t366, t369⟩, A80, H⟩ := H
      replace H : ((abacistref31_Good.f k l0).bind fun t370 => (if t370 = true then ((abacistref31_Add.f k t363 (([1] : List Int))).bind fun t374 => (if t369 = 0 then ((abacistref31_Good.f k t363).bind fun t377 => (if t377 = true then ((abacistref31_Good.f k t366).bind fun t378 => (if t378 = true then ((abacistref31_Mul.f k t363 t363).bind fun t379 => ((abacistref31_Add.f k t379 t366).bind fun t382 => ((abacistref04_Same.f k t382 l0).bind fun t385 => (if t385 = true then ((abacistref31_Mul.f k t374 t374).bind fun t386 => ((abacistref31_Less.f k l0 t386).bind fun t389 => (abacistlaw31_NaturalDivides.j0 k l0 a1 t358 t361 t362 (!t389)))) else (abacistlaw31_NaturalDivides.j0 k l0 a1 t358 t361 t362 true))))) else (abacistlaw31_NaturalDivides.j0 k l0 a1 t358 t361 t362 true))) else (abacistlaw31_NaturalDivides.j0 k l0 a1 t358 t361 t362 true))) else (abacistlaw31_NaturalDivides.j0 k l0 a1 t358 t361 t362 true))) else (if t362 = 10 then (if t369 = 10 then (if (t358.length : Int) = 0 then (if t361 = 0 then (if (t363.length : Int) = 0 then (some ((t366.length : Int) == 0)) else (some false)) else (some false)) else (some false)) else (some false)) else (some false)))) = some r := H
      have A8 := Aside0.mk A80
      clear A80
      replace H := Option.bind_eq_some_iff.mp H
      obtain ⟨t370, A90, H⟩ := H
      replace H : (if t370 = true then ((abacistref31_Add.f k t363 (([1] : List Int))).bind fun t374 => (if t369 = 0 then ((abacistref31_Good.f k t363).bind fun t377 => (if t377 = true then ((abacistref31_Good.f k t366).bind fun t378 => (if t378 = true then ((abacistref31_Mul.f k t363 t363).bind fun t379 => ((abacistref31_Add.f k t379 t366).bind fun t382 => ((abacistref04_Same.f k t382 l0).bind fun t385 => (if t385 = true then ((abacistref31_Mul.f k t374 t374).bind fun t386 => ((abacistref31_Less.f k l0 t386).bind fun t389 => (abacistlaw31_NaturalDivides.j0 k l0 a1 t358 t361 t362 (!t389)))) else (abacistlaw31_NaturalDivides.j0 k l0 a1 t358 t361 t362 true))))) else (abacistlaw31_NaturalDivides.j0 k l0 a1 t358 t361 t362 true))) else (abacistlaw31_NaturalDivides.j0 k l0 a1 t358 t361 t362 true))) else (abacistlaw31_NaturalDivides.j0 k l0 a1 t358 t361 t362 true))) else (if t362 = 10 then (if t369 = 10 then (if (t358.length : Int) = 0 then (if t361 = 0 then (if (t363.length : Int) = 0 then (some ((t366.length : Int) == 0)) else (some false)) else (some false)) else (some false)) else (some false)) else (some false))) = some r := H
      have A9 := Aside0.mk A90
      clear A90
      by_cases c10 : t370 = true
      · subst c10
        have H1 : ((abacistref31_Add.f k t363 (([1] : List Int))).bind fun t374 => (if t369 = 0 then ((abacistref31_Good.f k t363).bind fun t377 => (if t377 = true then ((abacistref31_Good.f k t366).bind fun t378 => (if t378 = true then ((abacistref31_Mul.f k t363 t363).bind fun t379 => ((abacistref31_Add.f k t379 t366).bind fun t382 => ((abacistref04_Same.f k t382 l0).bind fun t385 => (if t385 = true then ((abacistref31_Mul.f k t374 t374).bind fun t386 => ((abacistref31_Less.f k l0 t386).bind fun t389 => (abacistlaw31_NaturalDivides.j0 k l0 a1 t358 t361 t362 (!t389)))) else (abacistlaw31_NaturalDivides.j0 k l0 a1 t358 t361 t362 true))))) else (abacistlaw31_NaturalDivides.j0 k l0 a1 t358 t361 t362 true))) else (abacistlaw31_NaturalDivides.j0 k l0 a1 t358 t361 t362 true))) else (abacistlaw31_NaturalDivides.j0 k l0 a1 t358 t361 t362 true))) = some r := by rw [if_pos rfl] at H; exact H
        clear H
        have H := H1
        clear H1
        obtain ⟨y371, hy371⟩ : ∃ y_ : List Int, y_ = (([1] : List Int)) := ⟨_, rfl⟩
        replace H : ((abacistref31_Add.f k t363 y371).bind fun t374 => (if t369 = 0 then ((abacistref31_Good.f k t363).bind fun t377 => (if t377 = true then ((abacistref31_Good.f k t366).bind fun t378 => (if t378 = true then ((abacistref31_Mul.f k t363 t363).bind fun t379 => ((abacistref31_Add.f k t379 t366).bind fun t382 => ((abacistref04_Same.f k t382 l0).bind fun t385 => (if t385 = true then ((abacistref31_Mul.f k t374 t374).bind fun t386 => ((abacistref31_Less.f k l0 t386).bind fun t389 => (abacistlaw31_NaturalDivides.j0 k l0 a1 t358 t361 t362 (!t389)))) else (abacistlaw31_NaturalDivides.j0 k l0 a1 t358 t361 t362 true))))) else (abacistlaw31_NaturalDivides.j0 k l0 a1 t358 t361 t362 true))) else (abacistlaw31_NaturalDivides.j0 k l0 a1 t358 t361 t362 true))) else (abacistlaw31_NaturalDivides.j0 k l0 a1 t358 t361 t362 true))) = some r := by first | (rw [hy371]; with_reducible exact H) | (have H2_ := (Option.bind_some _ _).symm.trans H; rw [hy371]; with_reducible exact H2_) | (have H2_ := (Option.bind_some _ _).symm.trans H; with_reducible exact H2_) | with_reducible exact H | (rw [hy371]; exact H) | exact H
        have Ny371 := Aside0.mk hy371
        clear hy371
        replace H := Option.bind_eq_some_iff.mp H
        obtain ⟨t374, A110, H⟩ := H
        replace H : (if t369 = 0 then ((abacistref31_Good.f k t363).bind fun t377 => (if t377 = true then ((abacistref31_Good.f k t366).bind fun t378 => (if t378 = true then ((abacistref31_Mul.f k t363 t363).bind fun t379 => ((abacistref31_Add.f k t379 t366).bind fun t382 => ((abacistref04_Same.f k t382 l0).bind fun t385 => (if t385 = true then ((abacistref31_Mul.f k t374 t374).bind fun t386 => ((abacistref31_Less.f k l0 t386).bind fun t389 => (abacistlaw31_NaturalDivides.j0 k l0 a1 t358 t361 t362 (!t389)))) else (abacistlaw31_NaturalDivides.j0 k l0 a1 t358 t361 t362 true))))) else (abacistlaw31_NaturalDivides.j0 k l0 a1 t358 t361 t362 true))) else (abacistlaw31_NaturalDivides.j0 k l0 a1 t358 t361 t362 true))) else (abacistlaw31_NaturalDivides.j0 k l0 a1 t358 t361 t362 true)) = some r := H
        have A11 := Aside0.mk A110
        clear A110
        have HC12 := Aside0.mk H
        clear H
        go_enter Try.func8, Try.ntmps8
        go_upto_region 10 with (first | ((with_reducible refine gate_callee (f := 24) rfl ?_); refine goesL_ (some 12) rfl rfl Try.func24 (by kernel_rfl) rfl #[] rfl (by (try simp only [List.map_toArray, List.map_cons, List.map_nil]); first | done | rfl | (simp only [List.length_drop, List.length_take]; rfl)) ?_; (with_reducible refine (abacistlaw31_awake.calls k  true _ A3.out).mono ?_); rintro e w13 ⟨rfl, hb⟩; refine ⟨_, rfl, ?_⟩; have n0_ := Aside0.mk (below_step (by repeat (first | (with_reducible first | exact HB.out | apply below_alloc | apply pw_below_drewN | apply below_drew1) | exact HB.out)) hb); clear HB; have HB := n0_; clear n0_; (try clear hb); (try clear hb2); (try clear hk); (try clear hi)) | (go_at_call 24; (with_reducible refine (abacistlaw31_awake.calls k  true _ A3.out).mono ?_); rintro e w13 ⟨rfl, hb⟩; have n0_ := Aside0.mk (below_step (by repeat (first | (with_reducible first | exact HB.out | apply below_alloc | apply pw_below_drewN | apply below_drew1) | exact HB.out)) hb); clear HB; have HB := n0_; clear n0_; (try clear hb); (try clear hb2); (try clear hk); (try clear hi)) | ((with_reducible refine gate_callee (f := 31) rfl ?_); refine goesL_ (some 20) rfl rfl Try.func31 (by kernel_rfl) rfl #[.slice A0 l0.length c0, .int .u64 a1] rfl (by (try simp only [List.map_toArray, List.map_cons, List.map_nil]); first | done | rfl | (simp only [List.length_drop, List.length_take]; rfl)) ?_; (with_reducible refine (natural_DivSmall.calls k _ _ l0 a1 t358 t361 t362 _ ?side1 ?side2 A7.out).mono ?_); (case side1 => repeat (first | exact (Kd.C_below HR0.out HB.out) | (with_reducible refine Kd.C_alloc ?_ _) | (with_reducible refine Kd.C_drewN ?_ _) | (with_reducible refine Kd.C_drew ?_))); (case side2 => exact HC0.out); rintro e w14 ⟨v359, rfl, ho0, hb⟩; refine ⟨_, rfl, ?_⟩; have n0_ := Aside0.mk (Kd.V_lower (Kd.V_mono (ok' := fun k_ => True) ho0 (fun k_ hk_ => trivial)) (below_size (by repeat (first | (with_reducible first | exact HB.out | apply below_alloc | apply pw_below_drewN | apply below_drew1) | exact HB.out)))); have n1_ := Aside0.mk (below_step (by repeat (first | (with_reducible first | exact HB.out | apply below_alloc | apply pw_below_drewN | apply below_drew1) | exact HB.out)) hb); clear HB; have HO360 := n0_; have HB := n1_; clear n0_ n1_; (try clear hb); (try clear hb2); (try clear hk); (try clear hi); (try clear ho0)) | (go_at_call 31; (with_reducible refine (natural_DivSmall.calls k _ _ l0 a1 t358 t361 t362 _ ?side1 ?side2 A7.out).mono ?_); (case side1 => repeat (first | exact (Kd.C_below HR0.out HB.out) | (with_reducible refine Kd.C_alloc ?_ _) | (with_reducible refine Kd.C_drewN ?_ _) | (with_reducible refine Kd.C_drew ?_))); (case side2 => exact HC0.out); rintro e w14 ⟨v359, rfl, ho0, hb⟩; have n0_ := Aside0.mk (Kd.V_lower (Kd.V_mono (ok' := fun k_ => True) ho0 (fun k_ hk_ => trivial)) (below_size (by repeat (first | (with_reducible first | exact HB.out | apply below_alloc | apply pw_below_drewN | apply below_drew1) | exact HB.out)))); have n1_ := Aside0.mk (below_step (by repeat (first | (with_reducible first | exact HB.out | apply below_alloc | apply pw_below_drewN | apply below_drew1) | exact HB.out)) hb); clear HB; have HO360 := n0_; have HB := n1_; clear n0_ n1_; (try clear hb); (try clear hb2); (try clear hk); (try clear hi); (try clear ho0)) | ((with_reducible refine gate_callee (f := 32) rfl ?_); refine goesL_ (some 26) rfl rfl Try.func32 (by kernel_rfl) rfl #[.slice A0 l0.length c0] rfl (by (try simp only [List.map_toArray, List.map_cons, List.map_nil]); first | done | rfl | (simp only [List.length_drop, List.length_take]; rfl)) ?_; (with_reducible refine (natural_Root.calls k _ _ l0 t363 t366 t369 _ ?side1 ?side2 A8.out).mono ?_); (case side1 => repeat (first | exact (Kd.C_below HR0.out HB.out) | (with_reducible refine Kd.C_alloc ?_ _) | (with_reducible refine Kd.C_drewN ?_ _) | (with_reducible refine Kd.C_drew ?_))); (case side2 => exact HC0.out); rintro e w15 ⟨v364, v367, rfl, ho0, ho1, hb⟩; refine ⟨_, rfl, ?_⟩; have n0_ := Aside0.mk (Kd.V_below (by (with_reducible repeat (first | apply Kd.V_alloc | apply Kd.V_drewN | apply Kd.V_drew)); exact HO360.out) hb); have n1_ := Aside0.mk (Kd.V_lower (Kd.V_mono (ok' := fun k_ => True) ho0 (fun k_ hk_ => trivial)) (below_size (by repeat (first | (with_reducible first | exact HB.out | apply below_alloc | apply pw_below_drewN | apply below_drew1) | exact HB.out)))); have n2_ := Aside0.mk (Kd.V_lower (Kd.V_mono (ok' := fun k_ => True) ho1 (fun k_ hk_ => trivial)) (below_size (by repeat (first | (with_reducible first | exact HB.out | apply below_alloc | apply pw_below_drewN | apply below_drew1) | exact HB.out)))); have n3_ := Aside0.mk (below_step (by repeat (first | (with_reducible first | exact HB.out | apply below_alloc | apply pw_below_drewN | apply below_drew1) | exact HB.out)) hb); clear HO360; clear HB; have HO360 := n0_; have HO365 := n1_; have HO368 := n2_; have HB := n3_; clear n0_ n1_ n2_ n3_; (try clear hb); (try clear hb2); (try clear hk); (try clear hi); (try clear ho0); (try clear ho1)) | (go_at_call 32; (with_reducible refine (natural_Root.calls k _ _ l0 t363 t366 t369 _ ?side1 ?side2 A8.out).mono ?_); (case side1 => repeat (first | exact (Kd.C_below HR0.out HB.out) | (with_reducible refine Kd.C_alloc ?_ _) | (with_reducible refine Kd.C_drewN ?_ _) | (with_reducible refine Kd.C_drew ?_))); (case side2 => exact HC0.out); rintro e w15 ⟨v364, v367, rfl, ho0, ho1, hb⟩; have n0_ := Aside0.mk (Kd.V_below (by (with_reducible repeat (first | apply Kd.V_alloc | apply Kd.V_drewN | apply Kd.V_drew)); exact HO360.out) hb); have n1_ := Aside0.mk (Kd.V_lower (Kd.V_mono (ok' := fun k_ => True) ho0 (fun k_ hk_ => trivial)) (below_size (by repeat (first | (with_reducible first | exact HB.out | apply below_alloc | apply pw_below_drewN | apply below_drew1) | exact HB.out)))); have n2_ := Aside0.mk (Kd.V_lower (Kd.V_mono (ok' := fun k_ => True) ho1 (fun k_ hk_ => trivial)) (below_size (by repeat (first | (with_reducible first | exact HB.out | apply below_alloc | apply pw_below_drewN | apply below_drew1) | exact HB.out)))); have n3_ := Aside0.mk (below_step (by repeat (first | (with_reducible first | exact HB.out | apply below_alloc | apply pw_below_drewN | apply below_drew1) | exact HB.out)) hb); clear HO360; clear HB; have HO360 := n0_; have HO365 := n1_; have HO368 := n2_; have HB := n3_; clear n0_ n1_ n2_ n3_; (try clear hb); (try clear hb2); (try clear hk); (try clear hi); (try clear ho0); (try clear ho1)) | ((with_reducible refine gate_callee (f := 25) rfl ?_); refine goesL_ (some 31) rfl rfl Try.func25 (by kernel_rfl) rfl #[.slice A0 l0.length c0] rfl (by (try simp only [List.map_toArray, List.map_cons, List.map_nil]); first | done | rfl | (simp only [List.length_drop, List.length_take]; rfl)) ?_; (with_reducible refine (abacistref31_Good.calls k _ _ l0 true _ ?side1 ?side2 A9.out).mono ?_); (case side1 => repeat (first | exact (Kd.C_below HR0.out HB.out) | (with_reducible refine Kd.C_alloc ?_ _) | (with_reducible refine Kd.C_drewN ?_ _) | (with_reducible refine Kd.C_drew ?_))); (case side2 => exact HC0.out); rintro e w' ⟨rfl, ⟨nd, rfl⟩⟩; refine ⟨_, rfl, ?_⟩) | (go_at_call 25; (with_reducible refine (abacistref31_Good.calls k _ _ l0 true _ ?side1 ?side2 A9.out).mono ?_); (case side1 => repeat (first | exact (Kd.C_below HR0.out HB.out) | (with_reducible refine Kd.C_alloc ?_ _) | (with_reducible refine Kd.C_drewN ?_ _) | (with_reducible refine Kd.C_drew ?_))); (case side2 => exact HC0.out); rintro e w' ⟨rfl, ⟨nd, rfl⟩⟩) | ((with_reducible refine gate_dst (N := 59) rfl ?_); (try (refine gate_guard (by rfl) ?_; dsimp only)); refine Kd.R_lit (Kd.int .u64) _ 29 ?hg (N := 59) ?hd (xs := ([1] : List Int)) (inner := [.int .u64 1]) (ok := fun _ => True) (okp := fun _ => True) ?hr ?hp (fun _ hk => hk) trivial (Below.refl _ _) (Nat.le_refl _) (by simp) ?_; (case hd => rfl); (case hg => rfl); (case hr => first | (go_simp; done) | (go_simp; rfl)); (case hp => exact (Reps.one (show Kd.M (Kd.int .u64) _ _ _ 1 [.int .u64 1] from rfl) (Reps.none _ _))); intro v372 w16 ho17 hb hg_ hnew_; clear hg_ hnew_; (first | rw [← Ny371.out] at ho17 | (simp only [Int.reduceToNat] at ho17; rw [← Ny371.out] at ho17)); have n0_ := Aside0.mk (Kd.V_elder' (by (with_reducible repeat (first | apply Kd.V_alloc | apply Kd.V_drewN | apply Kd.V_drew)); exact HO360.out) (Kd.R_base ho17) hb); have n1_ := Aside0.mk (Kd.V_elder' (by (with_reducible repeat (first | apply Kd.V_alloc | apply Kd.V_drewN | apply Kd.V_drew)); exact HO365.out) (Kd.R_base ho17) hb); have n2_ := Aside0.mk (Kd.V_elder' (by (with_reducible repeat (first | apply Kd.V_alloc | apply Kd.V_drewN | apply Kd.V_drew)); exact HO368.out) (Kd.R_base ho17) hb); have n3_ := Aside0.mk (Kd.R_lower ho17 (below_size (by repeat (first | (with_reducible first | exact HB.out | apply below_alloc | apply pw_below_drewN | apply below_drew1) | exact HB.out)))); have n4_ := Aside0.mk (below_step (by repeat (first | (with_reducible first | exact HB.out | apply below_alloc | apply pw_below_drewN | apply below_drew1) | exact HB.out)) hb); clear HO360; clear HO365; clear HO368; clear HB; have HO360 := n0_; have HO365 := n1_; have HO368 := n2_; have HO373 := n3_; have HB := n4_; clear n0_ n1_ n2_ n3_ n4_; clear hb ho17; obtain ⟨Ao18, co18, eo18⟩ := Kd.V_slice HO365.out; subst eo18; obtain ⟨Ao19, co19, eo19⟩ := Kd.R_slice HO373.out; subst eo19) | ((with_reducible refine gate_callee (f := 33) rfl ?_); refine goesL_ (some 60) rfl rfl Try.func33 (by kernel_rfl) rfl #[.slice Ao18 t363.length co18, .slice Ao19 y371.length co19] rfl (by (try simp only [List.map_toArray, List.map_cons, List.map_nil]); first | done | rfl | (simp only [List.length_drop, List.length_take]; rfl)) ?_; (with_reducible refine (abacistref31_Add.calls k _ _ t363 _ _ y371 t374 _ ?side1 ?side2 ?side3 ?side4 A11.out).mono ?_); (case side1 => repeat (first | exact (Kd.V_reads' HO365.out).2.2 | (with_reducible refine Kd.C_alloc ?_ _) | (with_reducible refine Kd.C_drewN ?_ _) | (with_reducible refine Kd.C_drew ?_))); (case side2 => exact (Kd.V_reads' HO365.out).2.1); (case side3 => repeat (first | exact (Kd.R_reads' HO373.out).2.2 | (with_reducible refine Kd.C_alloc ?_ _) | (with_reducible refine Kd.C_drewN ?_ _) | (with_reducible refine Kd.C_drew ?_))); (case side4 => exact (Kd.R_reads' HO373.out).2.1); rintro e w20 ⟨v375, rfl, ho0, hb⟩; refine ⟨_, rfl, ?_⟩; have n0_ := Aside0.mk (Kd.V_elder' (by (with_reducible repeat (first | apply Kd.V_alloc | apply Kd.V_drewN | apply Kd.V_drew)); exact HO360.out) (Kd.R_base ho0) hb); have n1_ := Aside0.mk (Kd.V_elder' (by (with_reducible repeat (first | apply Kd.V_alloc | apply Kd.V_drewN | apply Kd.V_drew)); exact HO365.out) (Kd.R_base ho0) hb); have n2_ := Aside0.mk (Kd.V_elder' (by (with_reducible repeat (first | apply Kd.V_alloc | apply Kd.V_drewN | apply Kd.V_drew)); exact HO368.out) (Kd.R_base ho0) hb); have n3_ := Aside0.mk (Kd.R_elder' (by (with_reducible repeat (first | apply Kd.R_alloc | apply Kd.R_drewN | apply Kd.R_drew)); exact HO373.out) (Kd.R_base ho0) hb); have n4_ := Aside0.mk (Kd.R_lower (Kd.R_new' ho0 (Kd.R_lt (by (with_reducible repeat (first | apply Kd.R_alloc | apply Kd.R_drewN | apply Kd.R_drew)); exact HO373.out))) (below_size (by repeat (first | (with_reducible first | exact HB.out | apply below_alloc | apply pw_below_drewN | apply below_drew1) | exact HB.out)))); have n5_ := Aside0.mk (below_step (by repeat (first | (with_reducible first | exact HB.out | apply below_alloc | apply pw_below_drewN | apply below_drew1) | exact HB.out)) hb); clear HO360; clear HO365; clear HO368; clear HO373; clear HB; have HO360 := n0_; have HO365 := n1_; have HO368 := n2_; have HO373 := n3_; have HO376 := n4_; have HB := n5_; clear n0_ n1_ n2_ n3_ n4_ n5_; (try clear hb); (try clear hb2); (try clear hk); (try clear hi); (try clear ho0)) | (go_at_call 33; (with_reducible refine (abacistref31_Add.calls k _ _ t363 _ _ y371 t374 _ ?side1 ?side2 ?side3 ?side4 A11.out).mono ?_); (case side1 => repeat (first | exact (Kd.V_reads' HO365.out).2.2 | (with_reducible refine Kd.C_alloc ?_ _) | (with_reducible refine Kd.C_drewN ?_ _) | (with_reducible refine Kd.C_drew ?_))); (case side2 => exact (Kd.V_reads' HO365.out).2.1); (case side3 => repeat (first | exact (Kd.R_reads' HO373.out).2.2 | (with_reducible refine Kd.C_alloc ?_ _) | (with_reducible refine Kd.C_drewN ?_ _) | (with_reducible refine Kd.C_drew ?_))); (case side4 => exact (Kd.R_reads' HO373.out).2.1); rintro e w20 ⟨v375, rfl, ho0, hb⟩; have n0_ := Aside0.mk (Kd.V_elder' (by (with_reducible repeat (first | apply Kd.V_alloc | apply Kd.V_drewN | apply Kd.V_drew)); exact HO360.out) (Kd.R_base ho0) hb); have n1_ := Aside0.mk (Kd.V_elder' (by (with_reducible repeat (first | apply Kd.V_alloc | apply Kd.V_drewN | apply Kd.V_drew)); exact HO365.out) (Kd.R_base ho0) hb); have n2_ := Aside0.mk (Kd.V_elder' (by (with_reducible repeat (first | apply Kd.V_alloc | apply Kd.V_drewN | apply Kd.V_drew)); exact HO368.out) (Kd.R_base ho0) hb); have n3_ := Aside0.mk (Kd.R_elder' (by (with_reducible repeat (first | apply Kd.R_alloc | apply Kd.R_drewN | apply Kd.R_drew)); exact HO373.out) (Kd.R_base ho0) hb); have n4_ := Aside0.mk (Kd.R_lower (Kd.R_new' ho0 (Kd.R_lt (by (with_reducible repeat (first | apply Kd.R_alloc | apply Kd.R_drewN | apply Kd.R_drew)); exact HO373.out))) (below_size (by repeat (first | (with_reducible first | exact HB.out | apply below_alloc | apply pw_below_drewN | apply below_drew1) | exact HB.out)))); have n5_ := Aside0.mk (below_step (by repeat (first | (with_reducible first | exact HB.out | apply below_alloc | apply pw_below_drewN | apply below_drew1) | exact HB.out)) hb); clear HO360; clear HO365; clear HO368; clear HO373; clear HB; have HO360 := n0_; have HO365 := n1_; have HO368 := n2_; have HO373 := n3_; have HO376 := n4_; have HB := n5_; clear n0_ n1_ n2_ n3_ n4_ n5_; (try clear hb); (try clear hb2); (try clear hk); (try clear hi); (try clear ho0)))
        (try simp only [Act.put, List.setIfInBounds_toArray, List.set_cons_zero, List.set_cons_succ])
        go_cut [90] (fun v90 wc => ∃ (kq : Nat) (x90_11 : Bool), v90 = .bool x90_11 ∧ Aside0 (abacistlaw31_NaturalDivides.j0 kq l0 a1 t358 t361 t362 x90_11 = some r) ∧ Aside0 (kq ≤ k) ∧ Aside0 (Kd.V (Kd.int .u64) 29 wc w.heap.size (fun _ => True) v359 t358) ∧ Aside0 (Below w.heap.size w wc))
        case first =>
          have H := HC12.out
          clear HC12
          by_cases c21 : t369 = 0
          · rw [if_pos c21] at H
            have c21b0 : (t369 == 0) = true := beq_iff_eq.mpr c21
            have c21b1 : (t369 != 0) = false := bne_eq_false_iff_eq.mpr c21
            clear c21
            (first | rw [c21b0] | (simp only [i64_w, i32_w]; rw [c21b0]) | skip)
            replace H := Option.bind_eq_some_iff.mp H
            obtain ⟨t377, A220, H⟩ := H
            replace H : (if t377 = true then ((abacistref31_Good.f k t366).bind fun t378 => (if t378 = true then ((abacistref31_Mul.f k t363 t363).bind fun t379 => ((abacistref31_Add.f k t379 t366).bind fun t382 => ((abacistref04_Same.f k t382 l0).bind fun t385 => (if t385 = true then ((abacistref31_Mul.f k t374 t374).bind fun t386 => ((abacistref31_Less.f k l0 t386).bind fun t389 => (abacistlaw31_NaturalDivides.j0 k l0 a1 t358 t361 t362 (!t389)))) else (abacistlaw31_NaturalDivides.j0 k l0 a1 t358 t361 t362 true))))) else (abacistlaw31_NaturalDivides.j0 k l0 a1 t358 t361 t362 true))) else (abacistlaw31_NaturalDivides.j0 k l0 a1 t358 t361 t362 true)) = some r := H
            have A22 := Aside0.mk A220
            clear A220
            by_cases c23 : t377 = true
            · subst c23
              have H1 : ((abacistref31_Good.f k t366).bind fun t378 => (if t378 = true then ((abacistref31_Mul.f k t363 t363).bind fun t379 => ((abacistref31_Add.f k t379 t366).bind fun t382 => ((abacistref04_Same.f k t382 l0).bind fun t385 => (if t385 = true then ((abacistref31_Mul.f k t374 t374).bind fun t386 => ((abacistref31_Less.f k l0 t386).bind fun t389 => (abacistlaw31_NaturalDivides.j0 k l0 a1 t358 t361 t362 (!t389)))) else (abacistlaw31_NaturalDivides.j0 k l0 a1 t358 t361 t362 true))))) else (abacistlaw31_NaturalDivides.j0 k l0 a1 t358 t361 t362 true))) = some r := by rw [if_pos rfl] at H; exact H
              clear H
              have H := H1
              clear H1
              replace H := Option.bind_eq_some_iff.mp H
              obtain ⟨t378, A240, H⟩ := H
              replace H : (if t378 = true then ((abacistref31_Mul.f k t363 t363).bind fun t379 => ((abacistref31_Add.f k t379 t366).bind fun t382 => ((abacistref04_Same.f k t382 l0).bind fun t385 => (if t385 = true then ((abacistref31_Mul.f k t374 t374).bind fun t386 => ((abacistref31_Less.f k l0 t386).bind fun t389 => (abacistlaw31_NaturalDivides.j0 k l0 a1 t358 t361 t362 (!t389)))) else (abacistlaw31_NaturalDivides.j0 k l0 a1 t358 t361 t362 true))))) else (abacistlaw31_NaturalDivides.j0 k l0 a1 t358 t361 t362 true)) = some r := H
              have A24 := Aside0.mk A240
              clear A240
              by_cases c25 : t378 = true
              · subst c25
                have H1 : ((abacistref31_Mul.f k t363 t363).bind fun t379 => ((abacistref31_Add.f k t379 t366).bind fun t382 => ((abacistref04_Same.f k t382 l0).bind fun t385 => (if t385 = true then ((abacistref31_Mul.f k t374 t374).bind fun t386 => ((abacistref31_Less.f k l0 t386).bind fun t389 => (abacistlaw31_NaturalDivides.j0 k l0 a1 t358 t361 t362 (!t389)))) else (abacistlaw31_NaturalDivides.j0 k l0 a1 t358 t361 t362 true))))) = some r := by rw [if_pos rfl] at H; exact H
                clear H
                have H := H1
                clear H1
                replace H := Option.bind_eq_some_iff.mp H
                obtain ⟨t379, A260, H⟩ := H
                replace H : ((abacistref31_Add.f k t379 t366).bind fun t382 => ((abacistref04_Same.f k t382 l0).bind fun t385 => (if t385 = true then ((abacistref31_Mul.f k t374 t374).bind fun t386 => ((abacistref31_Less.f k l0 t386).bind fun t389 => (abacistlaw31_NaturalDivides.j0 k l0 a1 t358 t361 t362 (!t389)))) else (abacistlaw31_NaturalDivides.j0 k l0 a1 t358 t361 t362 true)))) = some r := H
                have A26 := Aside0.mk A260
                clear A260
                replace H := Option.bind_eq_some_iff.mp H
                obtain ⟨t382, A270, H⟩ := H
                replace H : ((abacistref04_Same.f k t382 l0).bind fun t385 => (if t385 = true then ((abacistref31_Mul.f k t374 t374).bind fun t386 => ((abacistref31_Less.f k l0 t386).bind fun t389 => (abacistlaw31_NaturalDivides.j0 k l0 a1 t358 t361 t362 (!t389)))) else (abacistlaw31_NaturalDivides.j0 k l0 a1 t358 t361 t362 true))) = some r := H
                have A27 := Aside0.mk A270
                clear A270
                replace H := Option.bind_eq_some_iff.mp H
                obtain ⟨t385, A280, H⟩ := H
                replace H : (if t385 = true then ((abacistref31_Mul.f k t374 t374).bind fun t386 => ((abacistref31_Less.f k l0 t386).bind fun t389 => (abacistlaw31_NaturalDivides.j0 k l0 a1 t358 t361 t362 (!t389)))) else (abacistlaw31_NaturalDivides.j0 k l0 a1 t358 t361 t362 true)) = some r := H
                have A28 := Aside0.mk A280
                clear A280
                by_cases c29 : t385 = true
                · subst c29
                  have H1 : ((abacistref31_Mul.f k t374 t374).bind fun t386 => ((abacistref31_Less.f k l0 t386).bind fun t389 => (abacistlaw31_NaturalDivides.j0 k l0 a1 t358 t361 t362 (!t389)))) = some r := by rw [if_pos rfl] at H; exact H
                  clear H
                  have H := H1
                  clear H1
                  replace H := Option.bind_eq_some_iff.mp H
                  obtain ⟨t386, A300, H⟩ := H
                  replace H : ((abacistref31_Less.f k l0 t386).bind fun t389 => (abacistlaw31_NaturalDivides.j0 k l0 a1 t358 t361 t362 (!t389))) = some r := H
                  have A30 := Aside0.mk A300
                  clear A300
                  replace H := Option.bind_eq_some_iff.mp H
                  obtain ⟨t389, A310, H⟩ := H
                  replace H : (abacistlaw31_NaturalDivides.j0 k l0 a1 t358 t361 t362 (!t389)) = some r := H
                  have A31 := Aside0.mk A310
                  clear A310
                  have H' := Aside0.mk H
                  clear H
                  go_wp2_with (first | (go_at_call 25; (with_reducible refine (abacistref31_Good.calls k _ _ t363 true _ ?side1 ?side2 A22.out).mono ?_); (case side1 => repeat (first | exact (Kd.V_reads' HO365.out).2.2 | (with_reducible refine Kd.C_alloc ?_ _) | (with_reducible refine Kd.C_drewN ?_ _) | (with_reducible refine Kd.C_drew ?_))); (case side2 => exact (Kd.V_reads' HO365.out).2.1); rintro e w' ⟨rfl, ⟨nd, rfl⟩⟩; obtain ⟨Ao32, co32, eo32⟩ := Kd.V_slice HO368.out; subst eo32) | (go_at_call 25; (with_reducible refine (abacistref31_Good.calls k _ _ t366 true _ ?side1 ?side2 A24.out).mono ?_); (case side1 => repeat (first | exact (Kd.V_reads' HO368.out).2.2 | (with_reducible refine Kd.C_alloc ?_ _) | (with_reducible refine Kd.C_drewN ?_ _) | (with_reducible refine Kd.C_drew ?_))); (case side2 => exact (Kd.V_reads' HO368.out).2.1); rintro e w' ⟨rfl, ⟨nd, rfl⟩⟩) | (go_at_call 29; (with_reducible refine (abacistref31_Mul.calls k _ _ t363 _ _ t363 t379 _ ?side1 ?side2 ?side3 ?side4 A26.out).mono ?_); (case side1 => repeat (first | exact (Kd.V_reads' HO365.out).2.2 | (with_reducible refine Kd.C_alloc ?_ _) | (with_reducible refine Kd.C_drewN ?_ _) | (with_reducible refine Kd.C_drew ?_))); (case side2 => exact (Kd.V_reads' HO365.out).2.1); (case side3 => repeat (first | exact (Kd.V_reads' HO365.out).2.2 | (with_reducible refine Kd.C_alloc ?_ _) | (with_reducible refine Kd.C_drewN ?_ _) | (with_reducible refine Kd.C_drew ?_))); (case side4 => exact (Kd.V_reads' HO365.out).2.1); rintro e w33 ⟨v380, rfl, ho0, hb⟩; have n0_ := Aside0.mk (Kd.V_elder' (by (with_reducible repeat (first | apply Kd.V_alloc | apply Kd.V_drewN | apply Kd.V_drew)); exact HO360.out) (Kd.R_base ho0) hb); have n1_ := Aside0.mk (Kd.V_elder' (by (with_reducible repeat (first | apply Kd.V_alloc | apply Kd.V_drewN | apply Kd.V_drew)); exact HO365.out) (Kd.R_base ho0) hb); have n2_ := Aside0.mk (Kd.V_elder' (by (with_reducible repeat (first | apply Kd.V_alloc | apply Kd.V_drewN | apply Kd.V_drew)); exact HO368.out) (Kd.R_base ho0) hb); have n3_ := Aside0.mk (Kd.R_elder' (by (with_reducible repeat (first | apply Kd.R_alloc | apply Kd.R_drewN | apply Kd.R_drew)); exact HO373.out) (Kd.R_base ho0) hb); have n4_ := Aside0.mk (Kd.R_elder' (by (with_reducible repeat (first | apply Kd.R_alloc | apply Kd.R_drewN | apply Kd.R_drew)); exact HO376.out) (Kd.R_base ho0) hb); have n5_ := Aside0.mk (Kd.R_lower (Kd.R_new' (Kd.R_new' ho0 (Kd.R_lt (by (with_reducible repeat (first | apply Kd.R_alloc | apply Kd.R_drewN | apply Kd.R_drew)); exact HO373.out))) (Kd.R_lt (by (with_reducible repeat (first | apply Kd.R_alloc | apply Kd.R_drewN | apply Kd.R_drew)); exact HO376.out))) (below_size (by repeat (first | (with_reducible first | exact HB.out | apply below_alloc | apply pw_below_drewN | apply below_drew1) | exact HB.out)))); have n6_ := Aside0.mk (below_step (by repeat (first | (with_reducible first | exact HB.out | apply below_alloc | apply pw_below_drewN | apply below_drew1) | exact HB.out)) hb); clear HO360; clear HO365; clear HO368; clear HO373; clear HO376; clear HB; have HO360 := n0_; have HO365 := n1_; have HO368 := n2_; have HO373 := n3_; have HO376 := n4_; have HO381 := n5_; have HB := n6_; clear n0_ n1_ n2_ n3_ n4_ n5_ n6_; (try clear hb); (try clear hb2); (try clear hk); (try clear hi); (try clear ho0); obtain ⟨Ao34, co34, eo34⟩ := Kd.R_slice HO381.out; subst eo34) | (go_at_call 33; (with_reducible refine (abacistref31_Add.calls k _ _ t379 _ _ t366 t382 _ ?side1 ?side2 ?side3 ?side4 A27.out).mono ?_); (case side1 => repeat (first | exact (Kd.R_reads' HO381.out).2.2 | (with_reducible refine Kd.C_alloc ?_ _) | (with_reducible refine Kd.C_drewN ?_ _) | (with_reducible refine Kd.C_drew ?_))); (case side2 => exact (Kd.R_reads' HO381.out).2.1); (case side3 => repeat (first | exact (Kd.V_reads' HO368.out).2.2 | (with_reducible refine Kd.C_alloc ?_ _) | (with_reducible refine Kd.C_drewN ?_ _) | (with_reducible refine Kd.C_drew ?_))); (case side4 => exact (Kd.V_reads' HO368.out).2.1); rintro e w35 ⟨v383, rfl, ho0, hb⟩; have n0_ := Aside0.mk (Kd.V_elder' (by (with_reducible repeat (first | apply Kd.V_alloc | apply Kd.V_drewN | apply Kd.V_drew)); exact HO360.out) (Kd.R_base ho0) hb); have n1_ := Aside0.mk (Kd.V_elder' (by (with_reducible repeat (first | apply Kd.V_alloc | apply Kd.V_drewN | apply Kd.V_drew)); exact HO365.out) (Kd.R_base ho0) hb); have n2_ := Aside0.mk (Kd.V_elder' (by (with_reducible repeat (first | apply Kd.V_alloc | apply Kd.V_drewN | apply Kd.V_drew)); exact HO368.out) (Kd.R_base ho0) hb); have n3_ := Aside0.mk (Kd.R_elder' (by (with_reducible repeat (first | apply Kd.R_alloc | apply Kd.R_drewN | apply Kd.R_drew)); exact HO373.out) (Kd.R_base ho0) hb); have n4_ := Aside0.mk (Kd.R_elder' (by (with_reducible repeat (first | apply Kd.R_alloc | apply Kd.R_drewN | apply Kd.R_drew)); exact HO376.out) (Kd.R_base ho0) hb); have n5_ := Aside0.mk (Kd.R_elder' (by (with_reducible repeat (first | apply Kd.R_alloc | apply Kd.R_drewN | apply Kd.R_drew)); exact HO381.out) (Kd.R_base ho0) hb); have n6_ := Aside0.mk (Kd.R_lower (Kd.R_new' (Kd.R_new' (Kd.R_new' ho0 (Kd.R_lt (by (with_reducible repeat (first | apply Kd.R_alloc | apply Kd.R_drewN | apply Kd.R_drew)); exact HO373.out))) (Kd.R_lt (by (with_reducible repeat (first | apply Kd.R_alloc | apply Kd.R_drewN | apply Kd.R_drew)); exact HO376.out))) (Kd.R_lt (by (with_reducible repeat (first | apply Kd.R_alloc | apply Kd.R_drewN | apply Kd.R_drew)); exact HO381.out))) (below_size (by repeat (first | (with_reducible first | exact HB.out | apply below_alloc | apply pw_below_drewN | apply below_drew1) | exact HB.out)))); have n7_ := Aside0.mk (below_step (by repeat (first | (with_reducible first | exact HB.out | apply below_alloc | apply pw_below_drewN | apply below_drew1) | exact HB.out)) hb); clear HO360; clear HO365; clear HO368; clear HO373; clear HO376; clear HO381; clear HB; have HO360 := n0_; have HO365 := n1_; have HO368 := n2_; have HO373 := n3_; have HO376 := n4_; have HO381 := n5_; have HO384 := n6_; have HB := n7_; clear n0_ n1_ n2_ n3_ n4_ n5_ n6_ n7_; (try clear hb); (try clear hb2); (try clear hk); (try clear hi); (try clear ho0); obtain ⟨Ao36, co36, eo36⟩ := Kd.R_slice HO384.out; subst eo36) | (go_at_call 18; (with_reducible refine (abacistref04_Same.calls k _ _ t382 _ _ l0 true _ ?side1 ?side2 ?side3 ?side4 A28.out).mono ?_); (case side1 => repeat (first | exact (Kd.R_reads' HO384.out).2.2 | (with_reducible refine Kd.C_alloc ?_ _) | (with_reducible refine Kd.C_drewN ?_ _) | (with_reducible refine Kd.C_drew ?_))); (case side2 => exact (Kd.R_reads' HO384.out).2.1); (case side3 => repeat (first | exact (Kd.C_below HR0.out HB.out) | (with_reducible refine Kd.C_alloc ?_ _) | (with_reducible refine Kd.C_drewN ?_ _) | (with_reducible refine Kd.C_drew ?_))); (case side4 => exact HC0.out); rintro e w' ⟨rfl, ⟨nd, rfl⟩⟩; obtain ⟨Ao37, co37, eo37⟩ := Kd.R_slice HO376.out; subst eo37) | (go_at_call 29; (with_reducible refine (abacistref31_Mul.calls k _ _ t374 _ _ t374 t386 _ ?side1 ?side2 ?side3 ?side4 A30.out).mono ?_); (case side1 => repeat (first | exact (Kd.R_reads' HO376.out).2.2 | (with_reducible refine Kd.C_alloc ?_ _) | (with_reducible refine Kd.C_drewN ?_ _) | (with_reducible refine Kd.C_drew ?_))); (case side2 => exact (Kd.R_reads' HO376.out).2.1); (case side3 => repeat (first | exact (Kd.R_reads' HO376.out).2.2 | (with_reducible refine Kd.C_alloc ?_ _) | (with_reducible refine Kd.C_drewN ?_ _) | (with_reducible refine Kd.C_drew ?_))); (case side4 => exact (Kd.R_reads' HO376.out).2.1); rintro e w38 ⟨v387, rfl, ho0, hb⟩; have n0_ := Aside0.mk (Kd.V_elder' (by (with_reducible repeat (first | apply Kd.V_alloc | apply Kd.V_drewN | apply Kd.V_drew)); exact HO360.out) (Kd.R_base ho0) hb); have n1_ := Aside0.mk (Kd.V_elder' (by (with_reducible repeat (first | apply Kd.V_alloc | apply Kd.V_drewN | apply Kd.V_drew)); exact HO365.out) (Kd.R_base ho0) hb); have n2_ := Aside0.mk (Kd.V_elder' (by (with_reducible repeat (first | apply Kd.V_alloc | apply Kd.V_drewN | apply Kd.V_drew)); exact HO368.out) (Kd.R_base ho0) hb); have n3_ := Aside0.mk (Kd.R_elder' (by (with_reducible repeat (first | apply Kd.R_alloc | apply Kd.R_drewN | apply Kd.R_drew)); exact HO373.out) (Kd.R_base ho0) hb); have n4_ := Aside0.mk (Kd.R_elder' (by (with_reducible repeat (first | apply Kd.R_alloc | apply Kd.R_drewN | apply Kd.R_drew)); exact HO376.out) (Kd.R_base ho0) hb); have n5_ := Aside0.mk (Kd.R_elder' (by (with_reducible repeat (first | apply Kd.R_alloc | apply Kd.R_drewN | apply Kd.R_drew)); exact HO381.out) (Kd.R_base ho0) hb); have n6_ := Aside0.mk (Kd.R_elder' (by (with_reducible repeat (first | apply Kd.R_alloc | apply Kd.R_drewN | apply Kd.R_drew)); exact HO384.out) (Kd.R_base ho0) hb); have n7_ := Aside0.mk (Kd.R_lower (Kd.R_new' (Kd.R_new' (Kd.R_new' (Kd.R_new' ho0 (Kd.R_lt (by (with_reducible repeat (first | apply Kd.R_alloc | apply Kd.R_drewN | apply Kd.R_drew)); exact HO373.out))) (Kd.R_lt (by (with_reducible repeat (first | apply Kd.R_alloc | apply Kd.R_drewN | apply Kd.R_drew)); exact HO376.out))) (Kd.R_lt (by (with_reducible repeat (first | apply Kd.R_alloc | apply Kd.R_drewN | apply Kd.R_drew)); exact HO381.out))) (Kd.R_lt (by (with_reducible repeat (first | apply Kd.R_alloc | apply Kd.R_drewN | apply Kd.R_drew)); exact HO384.out))) (below_size (by repeat (first | (with_reducible first | exact HB.out | apply below_alloc | apply pw_below_drewN | apply below_drew1) | exact HB.out)))); have n8_ := Aside0.mk (below_step (by repeat (first | (with_reducible first | exact HB.out | apply below_alloc | apply pw_below_drewN | apply below_drew1) | exact HB.out)) hb); clear HO360; clear HO365; clear HO368; clear HO373; clear HO376; clear HO381; clear HO384; clear HB; have HO360 := n0_; have HO365 := n1_; have HO368 := n2_; have HO373 := n3_; have HO376 := n4_; have HO381 := n5_; have HO384 := n6_; have HO388 := n7_; have HB := n8_; clear n0_ n1_ n2_ n3_ n4_ n5_ n6_ n7_ n8_; (try clear hb); (try clear hb2); (try clear hk); (try clear hi); (try clear ho0); obtain ⟨Ao39, co39, eo39⟩ := Kd.R_slice HO388.out; subst eo39) | (go_at_call 34; (with_reducible refine (abacistref31_Less.calls k _ _ l0 _ _ t386 t389 _ ?side1 ?side2 ?side3 ?side4 A31.out).mono ?_); (case side1 => repeat (first | exact (Kd.C_below HR0.out HB.out) | (with_reducible refine Kd.C_alloc ?_ _) | (with_reducible refine Kd.C_drewN ?_ _) | (with_reducible refine Kd.C_drew ?_))); (case side2 => exact HC0.out); (case side3 => repeat (first | exact (Kd.R_reads' HO388.out).2.2 | (with_reducible refine Kd.C_alloc ?_ _) | (with_reducible refine Kd.C_drewN ?_ _) | (with_reducible refine Kd.C_drew ?_))); (case side4 => exact (Kd.R_reads' HO388.out).2.1); rintro e w' ⟨rfl, ⟨nd, rfl⟩⟩))
                  go_meet
                  case rel => exact ⟨_, (!t389), (by first | rfl | (simp; done) | (simp [*]; done)), H', ⟨by first | omega | exact Nat.le_refl _⟩, ⟨by (with_reducible repeat (first | apply Kd.V_alloc | apply Kd.V_drewN | apply Kd.V_drew)); exact Kd.V_mono HO360.out (fun _ hk => trivial)⟩, ⟨by repeat (first | (with_reducible first | exact HB.out | apply below_alloc | apply pw_below_drewN | apply below_drew1) | exact HB.out)⟩⟩
                · replace c29 := Bool.eq_false_iff.mpr c29
                  subst c29
                  have H1 : (abacistlaw31_NaturalDivides.j0 k l0 a1 t358 t361 t362 true) = some r := by rw [if_neg (show ¬ (false = true) by decide)] at H; exact H
                  clear H
                  have H := H1
                  clear H1
                  have H' := Aside0.mk H
                  clear H
                  go_wp2_with (first | (go_at_call 25; (with_reducible refine (abacistref31_Good.calls k _ _ t363 true _ ?side1 ?side2 A22.out).mono ?_); (case side1 => repeat (first | exact (Kd.V_reads' HO365.out).2.2 | (with_reducible refine Kd.C_alloc ?_ _) | (with_reducible refine Kd.C_drewN ?_ _) | (with_reducible refine Kd.C_drew ?_))); (case side2 => exact (Kd.V_reads' HO365.out).2.1); rintro e w' ⟨rfl, ⟨nd, rfl⟩⟩; obtain ⟨Ao40, co40, eo40⟩ := Kd.V_slice HO368.out; subst eo40) | (go_at_call 25; (with_reducible refine (abacistref31_Good.calls k _ _ t366 true _ ?side1 ?side2 A24.out).mono ?_); (case side1 => repeat (first | exact (Kd.V_reads' HO368.out).2.2 | (with_reducible refine Kd.C_alloc ?_ _) | (with_reducible refine Kd.C_drewN ?_ _) | (with_reducible refine Kd.C_drew ?_))); (case side2 => exact (Kd.V_reads' HO368.out).2.1); rintro e w' ⟨rfl, ⟨nd, rfl⟩⟩) | (go_at_call 29; (with_reducible refine (abacistref31_Mul.calls k _ _ t363 _ _ t363 t379 _ ?side1 ?side2 ?side3 ?side4 A26.out).mono ?_); (case side1 => repeat (first | exact (Kd.V_reads' HO365.out).2.2 | (with_reducible refine Kd.C_alloc ?_ _) | (with_reducible refine Kd.C_drewN ?_ _) | (with_reducible refine Kd.C_drew ?_))); (case side2 => exact (Kd.V_reads' HO365.out).2.1); (case side3 => repeat (first | exact (Kd.V_reads' HO365.out).2.2 | (with_reducible refine Kd.C_alloc ?_ _) | (with_reducible refine Kd.C_drewN ?_ _) | (with_reducible refine Kd.C_drew ?_))); (case side4 => exact (Kd.V_reads' HO365.out).2.1); rintro e w41 ⟨v380, rfl, ho0, hb⟩; have n0_ := Aside0.mk (Kd.V_elder' (by (with_reducible repeat (first | apply Kd.V_alloc | apply Kd.V_drewN | apply Kd.V_drew)); exact HO360.out) (Kd.R_base ho0) hb); have n1_ := Aside0.mk (Kd.V_elder' (by (with_reducible repeat (first | apply Kd.V_alloc | apply Kd.V_drewN | apply Kd.V_drew)); exact HO365.out) (Kd.R_base ho0) hb); have n2_ := Aside0.mk (Kd.V_elder' (by (with_reducible repeat (first | apply Kd.V_alloc | apply Kd.V_drewN | apply Kd.V_drew)); exact HO368.out) (Kd.R_base ho0) hb); have n3_ := Aside0.mk (Kd.R_elder' (by (with_reducible repeat (first | apply Kd.R_alloc | apply Kd.R_drewN | apply Kd.R_drew)); exact HO373.out) (Kd.R_base ho0) hb); have n4_ := Aside0.mk (Kd.R_elder' (by (with_reducible repeat (first | apply Kd.R_alloc | apply Kd.R_drewN | apply Kd.R_drew)); exact HO376.out) (Kd.R_base ho0) hb); have n5_ := Aside0.mk (Kd.R_lower (Kd.R_new' (Kd.R_new' ho0 (Kd.R_lt (by (with_reducible repeat (first | apply Kd.R_alloc | apply Kd.R_drewN | apply Kd.R_drew)); exact HO373.out))) (Kd.R_lt (by (with_reducible repeat (first | apply Kd.R_alloc | apply Kd.R_drewN | apply Kd.R_drew)); exact HO376.out))) (below_size (by repeat (first | (with_reducible first | exact HB.out | apply below_alloc | apply pw_below_drewN | apply below_drew1) | exact HB.out)))); have n6_ := Aside0.mk (below_step (by repeat (first | (with_reducible first | exact HB.out | apply below_alloc | apply pw_below_drewN | apply below_drew1) | exact HB.out)) hb); clear HO360; clear HO365; clear HO368; clear HO373; clear HO376; clear HB; have HO360 := n0_; have HO365 := n1_; have HO368 := n2_; have HO373 := n3_; have HO376 := n4_; have HO381 := n5_; have HB := n6_; clear n0_ n1_ n2_ n3_ n4_ n5_ n6_; (try clear hb); (try clear hb2); (try clear hk); (try clear hi); (try clear ho0); obtain ⟨Ao42, co42, eo42⟩ := Kd.R_slice HO381.out; subst eo42) | (go_at_call 33; (with_reducible refine (abacistref31_Add.calls k _ _ t379 _ _ t366 t382 _ ?side1 ?side2 ?side3 ?side4 A27.out).mono ?_); (case side1 => repeat (first | exact (Kd.R_reads' HO381.out).2.2 | (with_reducible refine Kd.C_alloc ?_ _) | (with_reducible refine Kd.C_drewN ?_ _) | (with_reducible refine Kd.C_drew ?_))); (case side2 => exact (Kd.R_reads' HO381.out).2.1); (case side3 => repeat (first | exact (Kd.V_reads' HO368.out).2.2 | (with_reducible refine Kd.C_alloc ?_ _) | (with_reducible refine Kd.C_drewN ?_ _) | (with_reducible refine Kd.C_drew ?_))); (case side4 => exact (Kd.V_reads' HO368.out).2.1); rintro e w43 ⟨v383, rfl, ho0, hb⟩; have n0_ := Aside0.mk (Kd.V_elder' (by (with_reducible repeat (first | apply Kd.V_alloc | apply Kd.V_drewN | apply Kd.V_drew)); exact HO360.out) (Kd.R_base ho0) hb); have n1_ := Aside0.mk (Kd.V_elder' (by (with_reducible repeat (first | apply Kd.V_alloc | apply Kd.V_drewN | apply Kd.V_drew)); exact HO365.out) (Kd.R_base ho0) hb); have n2_ := Aside0.mk (Kd.V_elder' (by (with_reducible repeat (first | apply Kd.V_alloc | apply Kd.V_drewN | apply Kd.V_drew)); exact HO368.out) (Kd.R_base ho0) hb); have n3_ := Aside0.mk (Kd.R_elder' (by (with_reducible repeat (first | apply Kd.R_alloc | apply Kd.R_drewN | apply Kd.R_drew)); exact HO373.out) (Kd.R_base ho0) hb); have n4_ := Aside0.mk (Kd.R_elder' (by (with_reducible repeat (first | apply Kd.R_alloc | apply Kd.R_drewN | apply Kd.R_drew)); exact HO376.out) (Kd.R_base ho0) hb); have n5_ := Aside0.mk (Kd.R_elder' (by (with_reducible repeat (first | apply Kd.R_alloc | apply Kd.R_drewN | apply Kd.R_drew)); exact HO381.out) (Kd.R_base ho0) hb); have n6_ := Aside0.mk (Kd.R_lower (Kd.R_new' (Kd.R_new' (Kd.R_new' ho0 (Kd.R_lt (by (with_reducible repeat (first | apply Kd.R_alloc | apply Kd.R_drewN | apply Kd.R_drew)); exact HO373.out))) (Kd.R_lt (by (with_reducible repeat (first | apply Kd.R_alloc | apply Kd.R_drewN | apply Kd.R_drew)); exact HO376.out))) (Kd.R_lt (by (with_reducible repeat (first | apply Kd.R_alloc | apply Kd.R_drewN | apply Kd.R_drew)); exact HO381.out))) (below_size (by repeat (first | (with_reducible first | exact HB.out | apply below_alloc | apply pw_below_drewN | apply below_drew1) | exact HB.out)))); have n7_ := Aside0.mk (below_step (by repeat (first | (with_reducible first | exact HB.out | apply below_alloc | apply pw_below_drewN | apply below_drew1) | exact HB.out)) hb); clear HO360; clear HO365; clear HO368; clear HO373; clear HO376; clear HO381; clear HB; have HO360 := n0_; have HO365 := n1_; have HO368 := n2_; have HO373 := n3_; have HO376 := n4_; have HO381 := n5_; have HO384 := n6_; have HB := n7_; clear n0_ n1_ n2_ n3_ n4_ n5_ n6_ n7_; (try clear hb); (try clear hb2); (try clear hk); (try clear hi); (try clear ho0); obtain ⟨Ao44, co44, eo44⟩ := Kd.R_slice HO384.out; subst eo44) | (go_at_call 18; (with_reducible refine (abacistref04_Same.calls k _ _ t382 _ _ l0 false _ ?side1 ?side2 ?side3 ?side4 A28.out).mono ?_); (case side1 => repeat (first | exact (Kd.R_reads' HO384.out).2.2 | (with_reducible refine Kd.C_alloc ?_ _) | (with_reducible refine Kd.C_drewN ?_ _) | (with_reducible refine Kd.C_drew ?_))); (case side2 => exact (Kd.R_reads' HO384.out).2.1); (case side3 => repeat (first | exact (Kd.C_below HR0.out HB.out) | (with_reducible refine Kd.C_alloc ?_ _) | (with_reducible refine Kd.C_drewN ?_ _) | (with_reducible refine Kd.C_drew ?_))); (case side4 => exact HC0.out); rintro e w' ⟨rfl, ⟨nd, rfl⟩⟩))
                  go_meet
                  case rel => exact ⟨_, (true), (by first | rfl | (simp; done) | (simp [*]; done)), H', ⟨by first | omega | exact Nat.le_refl _⟩, ⟨by (with_reducible repeat (first | apply Kd.V_alloc | apply Kd.V_drewN | apply Kd.V_drew)); exact Kd.V_mono HO360.out (fun _ hk => trivial)⟩, ⟨by repeat (first | (with_reducible first | exact HB.out | apply below_alloc | apply pw_below_drewN | apply below_drew1) | exact HB.out)⟩⟩
              · replace c25 := Bool.eq_false_iff.mpr c25
                subst c25
                have H1 : (abacistlaw31_NaturalDivides.j0 k l0 a1 t358 t361 t362 true) = some r := by rw [if_neg (show ¬ (false = true) by decide)] at H; exact H
                clear H
                have H := H1
                clear H1
                have H' := Aside0.mk H
                clear H
                go_wp2_with (first | (go_at_call 25; (with_reducible refine (abacistref31_Good.calls k _ _ t363 true _ ?side1 ?side2 A22.out).mono ?_); (case side1 => repeat (first | exact (Kd.V_reads' HO365.out).2.2 | (with_reducible refine Kd.C_alloc ?_ _) | (with_reducible refine Kd.C_drewN ?_ _) | (with_reducible refine Kd.C_drew ?_))); (case side2 => exact (Kd.V_reads' HO365.out).2.1); rintro e w' ⟨rfl, ⟨nd, rfl⟩⟩; obtain ⟨Ao45, co45, eo45⟩ := Kd.V_slice HO368.out; subst eo45) | (go_at_call 25; (with_reducible refine (abacistref31_Good.calls k _ _ t366 false _ ?side1 ?side2 A24.out).mono ?_); (case side1 => repeat (first | exact (Kd.V_reads' HO368.out).2.2 | (with_reducible refine Kd.C_alloc ?_ _) | (with_reducible refine Kd.C_drewN ?_ _) | (with_reducible refine Kd.C_drew ?_))); (case side2 => exact (Kd.V_reads' HO368.out).2.1); rintro e w' ⟨rfl, ⟨nd, rfl⟩⟩))
                go_meet
                case rel => exact ⟨_, (true), (by first | rfl | (simp; done) | (simp [*]; done)), H', ⟨by first | omega | exact Nat.le_refl _⟩, ⟨by (with_reducible repeat (first | apply Kd.V_alloc | apply Kd.V_drewN | apply Kd.V_drew)); exact Kd.V_mono HO360.out (fun _ hk => trivial)⟩, ⟨by repeat (first | (with_reducible first | exact HB.out | apply below_alloc | apply pw_below_drewN | apply below_drew1) | exact HB.out)⟩⟩
            · replace c23 := Bool.eq_false_iff.mpr c23
              subst c23
              have H1 : (abacistlaw31_NaturalDivides.j0 k l0 a1 t358 t361 t362 true) = some r := by rw [if_neg (show ¬ (false = true) by decide)] at H; exact H
              clear H
              have H := H1
              clear H1
              have H' := Aside0.mk H
              clear H
              go_wp2_with (first | (go_at_call 25; (with_reducible refine (abacistref31_Good.calls k _ _ t363 false _ ?side1 ?side2 A22.out).mono ?_); (case side1 => repeat (first | exact (Kd.V_reads' HO365.out).2.2 | (with_reducible refine Kd.C_alloc ?_ _) | (with_reducible refine Kd.C_drewN ?_ _) | (with_reducible refine Kd.C_drew ?_))); (case side2 => exact (Kd.V_reads' HO365.out).2.1); rintro e w' ⟨rfl, ⟨nd, rfl⟩⟩))
              go_meet
              case rel => exact ⟨_, (true), (by first | rfl | (simp; done) | (simp [*]; done)), H', ⟨by first | omega | exact Nat.le_refl _⟩, ⟨by (with_reducible repeat (first | apply Kd.V_alloc | apply Kd.V_drewN | apply Kd.V_drew)); exact Kd.V_mono HO360.out (fun _ hk => trivial)⟩, ⟨by repeat (first | (with_reducible first | exact HB.out | apply below_alloc | apply pw_below_drewN | apply below_drew1) | exact HB.out)⟩⟩
          · rw [if_neg c21] at H
            have c21b0 : (t369 == 0) = false := beq_eq_false_iff_ne.mpr c21
            have c21b1 : (t369 != 0) = true := bne_iff_ne.mpr c21
            (first | rw [c21b0] | (simp only [i64_w, i32_w]; rw [c21b0]) | skip)
            have H' := Aside0.mk H
            clear H
            go_wp2
            go_meet
            case rel => exact ⟨_, (true), (by first | rfl | (simp; done) | (simp [*]; done)), H', ⟨by first | omega | exact Nat.le_refl _⟩, ⟨by (with_reducible repeat (first | apply Kd.V_alloc | apply Kd.V_drewN | apply Kd.V_drew)); exact Kd.V_mono HO360.out (fun _ hk => trivial)⟩, ⟨by repeat (first | (with_reducible first | exact HB.out | apply below_alloc | apply pw_below_drewN | apply below_drew1) | exact HB.out)⟩⟩
        case rest =>
          clear HC12
          try clear c1
          try clear c2
          try clear p2
          try clear c3
          try clear c4
          try clear c5
          try clear c5b0
          try clear c5b1
          try clear c8
          try clear c10
          try clear c21
          try clear c21b0
          try clear c21b1
          try clear c23
          try clear c24
          try clear c25
          try clear c29
          try clear c31
          try clear c32
          try clear c33
          obtain ⟨kq, x90_11, rfl, HA, HJ11, HO_5, HB⟩ := hcut
          cases kq with
          | zero => exact absurd HA.out (by simp [abacistlaw31_NaturalDivides.j0])
          | succ kj11 =>
            have H := HA.out
            clear HA
            simp only [abacistlaw31_NaturalDivides.j0] at H
            by_cases c46 : x90_11 = true
            · subst c46
              have H1 : (some false) = some r := by rw [if_pos rfl] at H; exact H
              clear H
              have H := H1
              clear H1
              obtain rfl := Option.some.inj H
              exact absurd hr_.out (by decide)
            · replace c46 := Bool.eq_false_iff.mpr c46
              subst c46
              have H1 : (if a1 = 0 then (some (t362 == 13)) else (if a1 > 4294967296 then (some (t362 == 1)) else (if t362 = 0 then ((abacistref31_Good.f kj11 t358).bind fun t390 => (if t390 = true then (if t361 < a1 then ((natural_Of.f kj11 a1).bind fun t391 => ((abacistref31_Mul.f kj11 t358 t391).bind fun t394 => ((natural_Of.f kj11 t361).bind fun t397 => ((abacistref31_Add.f kj11 t394 t397).bind fun t400 => ((abacistref04_Same.f kj11 t400 l0).bind fun t403 => (some t403)))))) else (some false)) else (some false))) else (some false)))) = some r := by rw [if_neg (show ¬ (false = true) by decide)] at H; exact H
              clear H
              have H := H1
              clear H1
              by_cases c47 : a1 = 0
              · rw [if_pos c47] at H
                have c47b0 : (a1 == 0) = true := beq_iff_eq.mpr c47
                have c47b1 : (a1 != 0) = false := bne_eq_false_iff_eq.mpr c47
                clear c47
                obtain rfl := Option.some.inj H
                go_wp2
                go_ret
                exact ⟨by first | rfl | (simp [errW_none, errW_some] <;> rfl) | (simp [*, errW_none, errW_some] <;> rfl), by repeat (first | (with_reducible first | exact HB.out | apply below_alloc | apply pw_below_drewN | apply below_drew1) | exact HB.out)⟩
              · rw [if_neg c47] at H
                have c47b0 : (a1 == 0) = false := beq_eq_false_iff_ne.mpr c47
                have c47b1 : (a1 != 0) = true := bne_iff_ne.mpr c47
                by_cases c48 : a1 > 4294967296
                · rw [if_pos c48] at H
                  have c48b0 : decide (4294967296 < a1) = true := decide_eq_true c48
                  clear c48
                  obtain rfl := Option.some.inj H
                  go_wp2
                  go_ret
                  exact ⟨by first | rfl | (simp [errW_none, errW_some] <;> rfl) | (simp [*, errW_none, errW_some] <;> rfl), by repeat (first | (with_reducible first | exact HB.out | apply below_alloc | apply pw_below_drewN | apply below_drew1) | exact HB.out)⟩
                · rw [if_neg c48] at H
                  have c48b0 : decide (4294967296 < a1) = false := decide_eq_false c48
                  clear c48
                  by_cases c49 : t362 = 0
                  · rw [if_pos c49] at H
                    have c49b0 : (t362 == 0) = true := beq_iff_eq.mpr c49
                    have c49b1 : (t362 != 0) = false := bne_eq_false_iff_eq.mpr c49
                    clear c49
                    replace H := Option.bind_eq_some_iff.mp H
                    obtain ⟨t390, A500, H⟩ := H
                    replace H : (if t390 = true then (if t361 < a1 then ((natural_Of.f kj11 a1).bind fun t391 => ((abacistref31_Mul.f kj11 t358 t391).bind fun t394 => ((natural_Of.f kj11 t361).bind fun t397 => ((abacistref31_Add.f kj11 t394 t397).bind fun t400 => ((abacistref04_Same.f kj11 t400 l0).bind fun t403 => (some t403)))))) else (some false)) else (some false)) = some r := H
                    have A50 := Aside0.mk A500
                    clear A500
                    by_cases c51 : t390 = true
                    · subst c51
                      have H1 : (if t361 < a1 then ((natural_Of.f kj11 a1).bind fun t391 => ((abacistref31_Mul.f kj11 t358 t391).bind fun t394 => ((natural_Of.f kj11 t361).bind fun t397 => ((abacistref31_Add.f kj11 t394 t397).bind fun t400 => ((abacistref04_Same.f kj11 t400 l0).bind fun t403 => (some t403)))))) else (some false)) = some r := by rw [if_pos rfl] at H; exact H
                      clear H
                      have H := H1
                      clear H1
                      by_cases c52 : t361 < a1
                      · rw [if_pos c52] at H
                        have c52b0 : decide (t361 < a1) = true := decide_eq_true c52
                        clear c52
                        replace H := Option.bind_eq_some_iff.mp H
                        obtain ⟨t391, A530, H⟩ := H
                        replace H : ((abacistref31_Mul.f kj11 t358 t391).bind fun t394 => ((natural_Of.f kj11 t361).bind fun t397 => ((abacistref31_Add.f kj11 t394 t397).bind fun t400 => ((abacistref04_Same.f kj11 t400 l0).bind fun t403 => (some t403))))) = some r := H
                        have A53 := Aside0.mk A530
                        clear A530
                        replace H := Option.bind_eq_some_iff.mp H
                        obtain ⟨t394, A540, H⟩ := H
                        replace H : ((natural_Of.f kj11 t361).bind fun t397 => ((abacistref31_Add.f kj11 t394 t397).bind fun t400 => ((abacistref04_Same.f kj11 t400 l0).bind fun t403 => (some t403)))) = some r := H
                        have A54 := Aside0.mk A540
                        clear A540
                        replace H := Option.bind_eq_some_iff.mp H
                        obtain ⟨t397, A550, H⟩ := H
                        replace H : ((abacistref31_Add.f kj11 t394 t397).bind fun t400 => ((abacistref04_Same.f kj11 t400 l0).bind fun t403 => (some t403))) = some r := H
                        have A55 := Aside0.mk A550
                        clear A550
                        replace H := Option.bind_eq_some_iff.mp H
                        obtain ⟨t400, A560, H⟩ := H
                        replace H : ((abacistref04_Same.f kj11 t400 l0).bind fun t403 => (some t403)) = some r := H
                        have A56 := Aside0.mk A560
                        clear A560
                        replace H := Option.bind_eq_some_iff.mp H
                        obtain ⟨t403, A570, H⟩ := H
                        replace H : (some t403) = some r := H
                        have A57 := Aside0.mk A570
                        clear A570
                        obtain rfl := Option.some.inj H
                        obtain ⟨Ao58, co58, eo58⟩ := Kd.V_slice HO_5.out
                        subst eo58
                        go_wp2_with (first | (go_at_call 25; (with_reducible refine (abacistref31_Good.calls kj11 _ _ t358 true _ ?side1 ?side2 A50.out).mono ?_); (case side1 => repeat (first | exact (Kd.V_reads' HO_5.out).2.2 | (with_reducible refine Kd.C_alloc ?_ _) | (with_reducible refine Kd.C_drewN ?_ _) | (with_reducible refine Kd.C_drew ?_))); (case side2 => exact (Kd.V_reads' HO_5.out).2.1); rintro e w' ⟨rfl, ⟨nd, rfl⟩⟩) | (go_at_call 35; (with_reducible refine (natural_Of.calls kj11 a1 t391 _ A53.out).mono ?_); rintro e w59 ⟨v392, rfl, ho0, hb⟩; have n0_ := Aside0.mk (Kd.V_elder' (by (with_reducible repeat (first | apply Kd.V_alloc | apply Kd.V_drewN | apply Kd.V_drew)); exact HO_5.out) (Kd.R_base ho0) hb); have n1_ := Aside0.mk (Kd.R_lower ho0 (below_size (by repeat (first | (with_reducible first | exact HB.out | apply below_alloc | apply pw_below_drewN | apply below_drew1) | exact HB.out)))); have n2_ := Aside0.mk (below_step (by repeat (first | (with_reducible first | exact HB.out | apply below_alloc | apply pw_below_drewN | apply below_drew1) | exact HB.out)) hb); clear HO_5; clear HB; have HO_5 := n0_; have HO393 := n1_; have HB := n2_; clear n0_ n1_ n2_; (try clear hb); (try clear hb2); (try clear hk); (try clear hi); (try clear ho0); obtain ⟨Ao60, co60, eo60⟩ := Kd.R_slice HO393.out; subst eo60) | (go_at_call 29; (with_reducible refine (abacistref31_Mul.calls kj11 _ _ t358 _ _ t391 t394 _ ?side1 ?side2 ?side3 ?side4 A54.out).mono ?_); (case side1 => repeat (first | exact (Kd.V_reads' HO_5.out).2.2 | (with_reducible refine Kd.C_alloc ?_ _) | (with_reducible refine Kd.C_drewN ?_ _) | (with_reducible refine Kd.C_drew ?_))); (case side2 => exact (Kd.V_reads' HO_5.out).2.1); (case side3 => repeat (first | exact (Kd.R_reads' HO393.out).2.2 | (with_reducible refine Kd.C_alloc ?_ _) | (with_reducible refine Kd.C_drewN ?_ _) | (with_reducible refine Kd.C_drew ?_))); (case side4 => exact (Kd.R_reads' HO393.out).2.1); rintro e w61 ⟨v395, rfl, ho0, hb⟩; have n0_ := Aside0.mk (Kd.V_elder' (by (with_reducible repeat (first | apply Kd.V_alloc | apply Kd.V_drewN | apply Kd.V_drew)); exact HO_5.out) (Kd.R_base ho0) hb); have n1_ := Aside0.mk (Kd.R_elder' (by (with_reducible repeat (first | apply Kd.R_alloc | apply Kd.R_drewN | apply Kd.R_drew)); exact HO393.out) (Kd.R_base ho0) hb); have n2_ := Aside0.mk (Kd.R_lower (Kd.R_new' ho0 (Kd.R_lt (by (with_reducible repeat (first | apply Kd.R_alloc | apply Kd.R_drewN | apply Kd.R_drew)); exact HO393.out))) (below_size (by repeat (first | (with_reducible first | exact HB.out | apply below_alloc | apply pw_below_drewN | apply below_drew1) | exact HB.out)))); have n3_ := Aside0.mk (below_step (by repeat (first | (with_reducible first | exact HB.out | apply below_alloc | apply pw_below_drewN | apply below_drew1) | exact HB.out)) hb); clear HO_5; clear HO393; clear HB; have HO_5 := n0_; have HO393 := n1_; have HO396 := n2_; have HB := n3_; clear n0_ n1_ n2_ n3_; (try clear hb); (try clear hb2); (try clear hk); (try clear hi); (try clear ho0)) | (go_at_call 35; (with_reducible refine (natural_Of.calls kj11 t361 t397 _ A55.out).mono ?_); rintro e w62 ⟨v398, rfl, ho0, hb⟩; have n0_ := Aside0.mk (Kd.V_elder' (by (with_reducible repeat (first | apply Kd.V_alloc | apply Kd.V_drewN | apply Kd.V_drew)); exact HO_5.out) (Kd.R_base ho0) hb); have n1_ := Aside0.mk (Kd.R_elder' (by (with_reducible repeat (first | apply Kd.R_alloc | apply Kd.R_drewN | apply Kd.R_drew)); exact HO393.out) (Kd.R_base ho0) hb); have n2_ := Aside0.mk (Kd.R_elder' (by (with_reducible repeat (first | apply Kd.R_alloc | apply Kd.R_drewN | apply Kd.R_drew)); exact HO396.out) (Kd.R_base ho0) hb); have n3_ := Aside0.mk (Kd.R_lower (Kd.R_new' (Kd.R_new' ho0 (Kd.R_lt (by (with_reducible repeat (first | apply Kd.R_alloc | apply Kd.R_drewN | apply Kd.R_drew)); exact HO393.out))) (Kd.R_lt (by (with_reducible repeat (first | apply Kd.R_alloc | apply Kd.R_drewN | apply Kd.R_drew)); exact HO396.out))) (below_size (by repeat (first | (with_reducible first | exact HB.out | apply below_alloc | apply pw_below_drewN | apply below_drew1) | exact HB.out)))); have n4_ := Aside0.mk (below_step (by repeat (first | (with_reducible first | exact HB.out | apply below_alloc | apply pw_below_drewN | apply below_drew1) | exact HB.out)) hb); clear HO_5; clear HO393; clear HO396; clear HB; have HO_5 := n0_; have HO393 := n1_; have HO396 := n2_; have HO399 := n3_; have HB := n4_; clear n0_ n1_ n2_ n3_ n4_; (try clear hb); (try clear hb2); (try clear hk); (try clear hi); (try clear ho0); obtain ⟨Ao63, co63, eo63⟩ := Kd.R_slice HO396.out; subst eo63; obtain ⟨Ao64, co64, eo64⟩ := Kd.R_slice HO399.out; subst eo64) | (go_at_call 33; (with_reducible refine (abacistref31_Add.calls kj11 _ _ t394 _ _ t397 t400 _ ?side1 ?side2 ?side3 ?side4 A56.out).mono ?_); (case side1 => repeat (first | exact (Kd.R_reads' HO396.out).2.2 | (with_reducible refine Kd.C_alloc ?_ _) | (with_reducible refine Kd.C_drewN ?_ _) | (with_reducible refine Kd.C_drew ?_))); (case side2 => exact (Kd.R_reads' HO396.out).2.1); (case side3 => repeat (first | exact (Kd.R_reads' HO399.out).2.2 | (with_reducible refine Kd.C_alloc ?_ _) | (with_reducible refine Kd.C_drewN ?_ _) | (with_reducible refine Kd.C_drew ?_))); (case side4 => exact (Kd.R_reads' HO399.out).2.1); rintro e w65 ⟨v401, rfl, ho0, hb⟩; have n0_ := Aside0.mk (Kd.V_elder' (by (with_reducible repeat (first | apply Kd.V_alloc | apply Kd.V_drewN | apply Kd.V_drew)); exact HO_5.out) (Kd.R_base ho0) hb); have n1_ := Aside0.mk (Kd.R_elder' (by (with_reducible repeat (first | apply Kd.R_alloc | apply Kd.R_drewN | apply Kd.R_drew)); exact HO393.out) (Kd.R_base ho0) hb); have n2_ := Aside0.mk (Kd.R_elder' (by (with_reducible repeat (first | apply Kd.R_alloc | apply Kd.R_drewN | apply Kd.R_drew)); exact HO396.out) (Kd.R_base ho0) hb); have n3_ := Aside0.mk (Kd.R_elder' (by (with_reducible repeat (first | apply Kd.R_alloc | apply Kd.R_drewN | apply Kd.R_drew)); exact HO399.out) (Kd.R_base ho0) hb); have n4_ := Aside0.mk (Kd.R_lower (Kd.R_new' (Kd.R_new' (Kd.R_new' ho0 (Kd.R_lt (by (with_reducible repeat (first | apply Kd.R_alloc | apply Kd.R_drewN | apply Kd.R_drew)); exact HO393.out))) (Kd.R_lt (by (with_reducible repeat (first | apply Kd.R_alloc | apply Kd.R_drewN | apply Kd.R_drew)); exact HO396.out))) (Kd.R_lt (by (with_reducible repeat (first | apply Kd.R_alloc | apply Kd.R_drewN | apply Kd.R_drew)); exact HO399.out))) (below_size (by repeat (first | (with_reducible first | exact HB.out | apply below_alloc | apply pw_below_drewN | apply below_drew1) | exact HB.out)))); have n5_ := Aside0.mk (below_step (by repeat (first | (with_reducible first | exact HB.out | apply below_alloc | apply pw_below_drewN | apply below_drew1) | exact HB.out)) hb); clear HO_5; clear HO393; clear HO396; clear HO399; clear HB; have HO_5 := n0_; have HO393 := n1_; have HO396 := n2_; have HO399 := n3_; have HO402 := n4_; have HB := n5_; clear n0_ n1_ n2_ n3_ n4_ n5_; (try clear hb); (try clear hb2); (try clear hk); (try clear hi); (try clear ho0); obtain ⟨Ao66, co66, eo66⟩ := Kd.R_slice HO402.out; subst eo66) | (go_at_call 18; (with_reducible refine (abacistref04_Same.calls kj11 _ _ t400 _ _ l0 t403 _ ?side1 ?side2 ?side3 ?side4 A57.out).mono ?_); (case side1 => repeat (first | exact (Kd.R_reads' HO402.out).2.2 | (with_reducible refine Kd.C_alloc ?_ _) | (with_reducible refine Kd.C_drewN ?_ _) | (with_reducible refine Kd.C_drew ?_))); (case side2 => exact (Kd.R_reads' HO402.out).2.1); (case side3 => repeat (first | exact (Kd.C_below HR0.out HB.out) | (with_reducible refine Kd.C_alloc ?_ _) | (with_reducible refine Kd.C_drewN ?_ _) | (with_reducible refine Kd.C_drew ?_))); (case side4 => exact HC0.out); rintro e w' ⟨rfl, ⟨nd, rfl⟩⟩))
                        go_ret
                        exact ⟨by first | rfl | (simp [errW_none, errW_some] <;> rfl) | (simp [*, errW_none, errW_some] <;> rfl), by repeat (first | (with_reducible first | exact HB.out | apply below_alloc | apply pw_below_drewN | apply below_drew1) | exact HB.out)⟩
                      · rw [if_neg c52] at H
                        have c52b0 : decide (t361 < a1) = false := decide_eq_false c52
                        clear c52
                        obtain rfl := Option.some.inj H
                        exact absurd hr_.out (by decide)
                    · replace c51 := Bool.eq_false_iff.mpr c51
                      subst c51
                      have H1 : (some false) = some r := by rw [if_neg (show ¬ (false = true) by decide)] at H; exact H
                      clear H
                      have H := H1
                      clear H1
                      obtain rfl := Option.some.inj H
                      exact absurd hr_.out (by decide)
                  · rw [if_neg c49] at H
                    have c49b0 : (t362 == 0) = false := beq_eq_false_iff_ne.mpr c49
                    have c49b1 : (t362 != 0) = true := bne_iff_ne.mpr c49
                    obtain rfl := Option.some.inj H
                    exact absurd hr_.out (by decide)
      · replace c10 := Bool.eq_false_iff.mpr c10
        subst c10
        have H1 : (if t362 = 10 then (if t369 = 10 then (if (t358.length : Int) = 0 then (if t361 = 0 then (if (t363.length : Int) = 0 then (some ((t366.length : Int) == 0)) else (some false)) else (some false)) else (some false)) else (some false)) else (some false)) = some r := by rw [if_neg (show ¬ (false = true) by decide)] at H; exact H
        clear H
        have H := H1
        clear H1
        by_cases c67 : t362 = 10
        · rw [if_pos c67] at H
          have c67b0 : (t362 == 10) = true := beq_iff_eq.mpr c67
          have c67b1 : (t362 != 10) = false := bne_eq_false_iff_eq.mpr c67
          clear c67
          by_cases c68 : t369 = 10
          · rw [if_pos c68] at H
            have c68b0 : (t369 == 10) = true := beq_iff_eq.mpr c68
            have c68b1 : (t369 != 10) = false := bne_eq_false_iff_eq.mpr c68
            clear c68
            by_cases c69 : (t358.length : Int) = 0
            · rw [if_pos c69] at H
              have c69b0 : ((t358.length : Int) == 0) = true := beq_iff_eq.mpr c69
              have c69b1 : ((t358.length : Int) != 0) = false := bne_eq_false_iff_eq.mpr c69
              clear c69
              by_cases c70 : t361 = 0
              · rw [if_pos c70] at H
                have c70b0 : (t361 == 0) = true := beq_iff_eq.mpr c70
                have c70b1 : (t361 != 0) = false := bne_eq_false_iff_eq.mpr c70
                clear c70
                by_cases c71 : (t363.length : Int) = 0
                · rw [if_pos c71] at H
                  have c71b0 : ((t363.length : Int) == 0) = true := beq_iff_eq.mpr c71
                  have c71b1 : ((t363.length : Int) != 0) = false := bne_eq_false_iff_eq.mpr c71
                  clear c71
                  obtain rfl := Option.some.inj H
                  go_enter Try.func8, Try.ntmps8
                  go_wp2_with (first | ((with_reducible refine gate_callee (f := 24) rfl ?_); refine goesL_ (some 12) rfl rfl Try.func24 (by kernel_rfl) rfl #[] rfl (by (try simp only [List.map_toArray, List.map_cons, List.map_nil]); first | done | rfl | (simp only [List.length_drop, List.length_take]; rfl)) ?_; (with_reducible refine (abacistlaw31_awake.calls k  true _ A3.out).mono ?_); rintro e w72 ⟨rfl, hb⟩; refine ⟨_, rfl, ?_⟩; have n0_ := Aside0.mk (below_step (by repeat (first | (with_reducible first | exact HB.out | apply below_alloc | apply pw_below_drewN | apply below_drew1) | exact HB.out)) hb); clear HB; have HB := n0_; clear n0_; (try clear hb); (try clear hb2); (try clear hk); (try clear hi)) | (go_at_call 24; (with_reducible refine (abacistlaw31_awake.calls k  true _ A3.out).mono ?_); rintro e w72 ⟨rfl, hb⟩; have n0_ := Aside0.mk (below_step (by repeat (first | (with_reducible first | exact HB.out | apply below_alloc | apply pw_below_drewN | apply below_drew1) | exact HB.out)) hb); clear HB; have HB := n0_; clear n0_; (try clear hb); (try clear hb2); (try clear hk); (try clear hi)) | ((with_reducible refine gate_callee (f := 31) rfl ?_); refine goesL_ (some 20) rfl rfl Try.func31 (by kernel_rfl) rfl #[.slice A0 l0.length c0, .int .u64 a1] rfl (by (try simp only [List.map_toArray, List.map_cons, List.map_nil]); first | done | rfl | (simp only [List.length_drop, List.length_take]; rfl)) ?_; (with_reducible refine (natural_DivSmall.calls k _ _ l0 a1 t358 t361 t362 _ ?side1 ?side2 A7.out).mono ?_); (case side1 => repeat (first | exact (Kd.C_below HR0.out HB.out) | (with_reducible refine Kd.C_alloc ?_ _) | (with_reducible refine Kd.C_drewN ?_ _) | (with_reducible refine Kd.C_drew ?_))); (case side2 => exact HC0.out); rintro e w73 ⟨v359, rfl, ho0, hb⟩; refine ⟨_, rfl, ?_⟩; have n0_ := Aside0.mk (Kd.V_lower (Kd.V_mono (ok' := fun k_ => True) ho0 (fun k_ hk_ => trivial)) (below_size (by repeat (first | (with_reducible first | exact HB.out | apply below_alloc | apply pw_below_drewN | apply below_drew1) | exact HB.out)))); have n1_ := Aside0.mk (below_step (by repeat (first | (with_reducible first | exact HB.out | apply below_alloc | apply pw_below_drewN | apply below_drew1) | exact HB.out)) hb); clear HB; have HO360 := n0_; have HB := n1_; clear n0_ n1_; (try clear hb); (try clear hb2); (try clear hk); (try clear hi); (try clear ho0)) | (go_at_call 31; (with_reducible refine (natural_DivSmall.calls k _ _ l0 a1 t358 t361 t362 _ ?side1 ?side2 A7.out).mono ?_); (case side1 => repeat (first | exact (Kd.C_below HR0.out HB.out) | (with_reducible refine Kd.C_alloc ?_ _) | (with_reducible refine Kd.C_drewN ?_ _) | (with_reducible refine Kd.C_drew ?_))); (case side2 => exact HC0.out); rintro e w73 ⟨v359, rfl, ho0, hb⟩; have n0_ := Aside0.mk (Kd.V_lower (Kd.V_mono (ok' := fun k_ => True) ho0 (fun k_ hk_ => trivial)) (below_size (by repeat (first | (with_reducible first | exact HB.out | apply below_alloc | apply pw_below_drewN | apply below_drew1) | exact HB.out)))); have n1_ := Aside0.mk (below_step (by repeat (first | (with_reducible first | exact HB.out | apply below_alloc | apply pw_below_drewN | apply below_drew1) | exact HB.out)) hb); clear HB; have HO360 := n0_; have HB := n1_; clear n0_ n1_; (try clear hb); (try clear hb2); (try clear hk); (try clear hi); (try clear ho0)) | ((with_reducible refine gate_callee (f := 32) rfl ?_); refine goesL_ (some 26) rfl rfl Try.func32 (by kernel_rfl) rfl #[.slice A0 l0.length c0] rfl (by (try simp only [List.map_toArray, List.map_cons, List.map_nil]); first | done | rfl | (simp only [List.length_drop, List.length_take]; rfl)) ?_; (with_reducible refine (natural_Root.calls k _ _ l0 t363 t366 t369 _ ?side1 ?side2 A8.out).mono ?_); (case side1 => repeat (first | exact (Kd.C_below HR0.out HB.out) | (with_reducible refine Kd.C_alloc ?_ _) | (with_reducible refine Kd.C_drewN ?_ _) | (with_reducible refine Kd.C_drew ?_))); (case side2 => exact HC0.out); rintro e w74 ⟨v364, v367, rfl, ho0, ho1, hb⟩; refine ⟨_, rfl, ?_⟩; have n0_ := Aside0.mk (Kd.V_below (by (with_reducible repeat (first | apply Kd.V_alloc | apply Kd.V_drewN | apply Kd.V_drew)); exact HO360.out) hb); have n1_ := Aside0.mk (Kd.V_lower (Kd.V_mono (ok' := fun k_ => True) ho0 (fun k_ hk_ => trivial)) (below_size (by repeat (first | (with_reducible first | exact HB.out | apply below_alloc | apply pw_below_drewN | apply below_drew1) | exact HB.out)))); have n2_ := Aside0.mk (Kd.V_lower (Kd.V_mono (ok' := fun k_ => True) ho1 (fun k_ hk_ => trivial)) (below_size (by repeat (first | (with_reducible first | exact HB.out | apply below_alloc | apply pw_below_drewN | apply below_drew1) | exact HB.out)))); have n3_ := Aside0.mk (below_step (by repeat (first | (with_reducible first | exact HB.out | apply below_alloc | apply pw_below_drewN | apply below_drew1) | exact HB.out)) hb); clear HO360; clear HB; have HO360 := n0_; have HO365 := n1_; have HO368 := n2_; have HB := n3_; clear n0_ n1_ n2_ n3_; (try clear hb); (try clear hb2); (try clear hk); (try clear hi); (try clear ho0); (try clear ho1)) | (go_at_call 32; (with_reducible refine (natural_Root.calls k _ _ l0 t363 t366 t369 _ ?side1 ?side2 A8.out).mono ?_); (case side1 => repeat (first | exact (Kd.C_below HR0.out HB.out) | (with_reducible refine Kd.C_alloc ?_ _) | (with_reducible refine Kd.C_drewN ?_ _) | (with_reducible refine Kd.C_drew ?_))); (case side2 => exact HC0.out); rintro e w74 ⟨v364, v367, rfl, ho0, ho1, hb⟩; have n0_ := Aside0.mk (Kd.V_below (by (with_reducible repeat (first | apply Kd.V_alloc | apply Kd.V_drewN | apply Kd.V_drew)); exact HO360.out) hb); have n1_ := Aside0.mk (Kd.V_lower (Kd.V_mono (ok' := fun k_ => True) ho0 (fun k_ hk_ => trivial)) (below_size (by repeat (first | (with_reducible first | exact HB.out | apply below_alloc | apply pw_below_drewN | apply below_drew1) | exact HB.out)))); have n2_ := Aside0.mk (Kd.V_lower (Kd.V_mono (ok' := fun k_ => True) ho1 (fun k_ hk_ => trivial)) (below_size (by repeat (first | (with_reducible first | exact HB.out | apply below_alloc | apply pw_below_drewN | apply below_drew1) | exact HB.out)))); have n3_ := Aside0.mk (below_step (by repeat (first | (with_reducible first | exact HB.out | apply below_alloc | apply pw_below_drewN | apply below_drew1) | exact HB.out)) hb); clear HO360; clear HB; have HO360 := n0_; have HO365 := n1_; have HO368 := n2_; have HB := n3_; clear n0_ n1_ n2_ n3_; (try clear hb); (try clear hb2); (try clear hk); (try clear hi); (try clear ho0); (try clear ho1)) | ((with_reducible refine gate_callee (f := 25) rfl ?_); refine goesL_ (some 31) rfl rfl Try.func25 (by kernel_rfl) rfl #[.slice A0 l0.length c0] rfl (by (try simp only [List.map_toArray, List.map_cons, List.map_nil]); first | done | rfl | (simp only [List.length_drop, List.length_take]; rfl)) ?_; (with_reducible refine (abacistref31_Good.calls k _ _ l0 false _ ?side1 ?side2 A9.out).mono ?_); (case side1 => repeat (first | exact (Kd.C_below HR0.out HB.out) | (with_reducible refine Kd.C_alloc ?_ _) | (with_reducible refine Kd.C_drewN ?_ _) | (with_reducible refine Kd.C_drew ?_))); (case side2 => exact HC0.out); rintro e w' ⟨rfl, ⟨nd, rfl⟩⟩; refine ⟨_, rfl, ?_⟩; obtain ⟨Ao75, co75, eo75⟩ := Kd.V_slice HO360.out; subst eo75; obtain ⟨Ao76, co76, eo76⟩ := Kd.V_slice HO365.out; subst eo76; obtain ⟨Ao77, co77, eo77⟩ := Kd.V_slice HO368.out; subst eo77) | (go_at_call 25; (with_reducible refine (abacistref31_Good.calls k _ _ l0 false _ ?side1 ?side2 A9.out).mono ?_); (case side1 => repeat (first | exact (Kd.C_below HR0.out HB.out) | (with_reducible refine Kd.C_alloc ?_ _) | (with_reducible refine Kd.C_drewN ?_ _) | (with_reducible refine Kd.C_drew ?_))); (case side2 => exact HC0.out); rintro e w' ⟨rfl, ⟨nd, rfl⟩⟩; obtain ⟨Ao75, co75, eo75⟩ := Kd.V_slice HO360.out; subst eo75; obtain ⟨Ao76, co76, eo76⟩ := Kd.V_slice HO365.out; subst eo76; obtain ⟨Ao77, co77, eo77⟩ := Kd.V_slice HO368.out; subst eo77))
                  go_ret
                  exact ⟨by first | rfl | (simp [errW_none, errW_some] <;> rfl) | (simp [*, errW_none, errW_some] <;> rfl), by repeat (first | (with_reducible first | exact HB.out | apply below_alloc | apply pw_below_drewN | apply below_drew1) | exact HB.out)⟩
                · rw [if_neg c71] at H
                  have c71b0 : ((t363.length : Int) == 0) = false := beq_eq_false_iff_ne.mpr c71
                  have c71b1 : ((t363.length : Int) != 0) = true := bne_iff_ne.mpr c71
                  have c71b2 : ¬ (t363 = []) := fun h_ => c71 (by rw [h_]; rfl)
                  obtain rfl := Option.some.inj H
                  exact absurd hr_.out (by decide)
              · rw [if_neg c70] at H
                have c70b0 : (t361 == 0) = false := beq_eq_false_iff_ne.mpr c70
                have c70b1 : (t361 != 0) = true := bne_iff_ne.mpr c70
                obtain rfl := Option.some.inj H
                exact absurd hr_.out (by decide)
            · rw [if_neg c69] at H
              have c69b0 : ((t358.length : Int) == 0) = false := beq_eq_false_iff_ne.mpr c69
              have c69b1 : ((t358.length : Int) != 0) = true := bne_iff_ne.mpr c69
              have c69b2 : ¬ (t358 = []) := fun h_ => c69 (by rw [h_]; rfl)
              obtain rfl := Option.some.inj H
              exact absurd hr_.out (by decide)
          · rw [if_neg c68] at H
            have c68b0 : (t369 == 10) = false := beq_eq_false_iff_ne.mpr c68
            have c68b1 : (t369 != 10) = true := bne_iff_ne.mpr c68
            obtain rfl := Option.some.inj H
            exact absurd hr_.out (by decide)
        · rw [if_neg c67] at H
          have c67b0 : (t362 == 10) = false := beq_eq_false_iff_ne.mpr c67
          have c67b1 : (t362 != 10) = true := bne_iff_ne.mpr c67
          obtain rfl := Option.some.inj H
          exact absurd hr_.out (by decide)
  · replace c4 := Bool.eq_false_iff.mpr c4
    subst c4
    have H1 : (some false) = some r := by rw [if_neg (show ¬ (false = true) by decide)] at H; exact H
    clear H
    have H := H1
    clear H1
    obtain rfl := Option.some.inj H
    exact absurd hr_.out (by decide)

/-- THE ONE PURE STATEMENT of abacistlaw31_NaturalDivides: yours. -/
def abacistlaw31_NaturalDivides.Pure : Prop := ∀ (l0 : List Int) (a1 : Int), l0.length ≤ maxLen → l0.length * 8 ≤ 140737488351232 → (∀ x ∈ l0, (Lit.int .u64 x).wf = true) → (Lit.int .u64 a1).wf = true → ∃ k, abacistlaw31_NaturalDivides.f k l0 a1 = some true
theorem abacistlaw31_NaturalDivides.walk (P : abacistlaw31_NaturalDivides.Pure) (a0 : Option Addr) (len0 cap0 : Nat) (z0 : List Int) (a1 : Int) (w : World) (w0 : (a0 = none ∧ len0 = 0 ∧ cap0 = 0 ∧ z0 = []) ∨ ∃ x, a0 = some x ∧ len0 ≤ cap0 ∧ cap0 ≤ maxLen ∧ z0.length = cap0 ∧ (∀ i, i < z0.length → w.cell? (x.add i) = some (.int .u64 (z0.getD i 0))) ∧ ∀ n ∈ z0, (Lit.int .u64 n).wf = true) (y0 : len0 * 8 ≤ 140737488351232) (w1 : (Lit.int .u64 a1).wf = true) :
    Calls Try.prog 8 #[.slice a0 len0 cap0, .int .u64 a1] w fun e w' => e = .returned (.bool true) ∧ Below w.heap.size w w' := by
  obtain ⟨l0, rfl, hr0, hm0, hw0, hc0⟩ := ReadsInt.ofRowC w0
  obtain ⟨k, h⟩ := P l0 a1 hm0 y0 hw0 w1
  refine (abacistlaw31_NaturalDivides.calls k _ _ l0 a1 true ⟨rfl⟩ w (Kd.C_of_reads (d := (0 : Int)) (h1 := fun _ => rfl) hr0) hc0 h).mono ?_
  rintro e w' ⟨rfl, hd⟩
  exact ⟨rfl, hd⟩

end Go.Proofs.Ytaiahgnkgbfcfaa.PNaturalDivides
