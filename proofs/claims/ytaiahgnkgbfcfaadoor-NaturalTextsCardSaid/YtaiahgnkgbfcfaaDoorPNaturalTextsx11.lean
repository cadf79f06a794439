-- Written for this claim by wip/gen/mk.sh, this session's own driver over the kit's print
import Derived.Test.YtaiahgnkgbfcfaaDoorPNaturalTextsx0
import Derived.Test.YtaiahgnkgbfcfaaDoorPNaturalTextsx1
import Derived.Test.YtaiahgnkgbfcfaaDoorPNaturalTextsx2
import Derived.Test.YtaiahgnkgbfcfaaDoorPNaturalTextsx8
import Derived.Test.YtaiahgnkgbfcfaaDoorPNaturalTextsx9
import Derived.Test.YtaiahgnkgbfcfaaDoorPNaturalTextsx10
namespace Go.Proofs.YtaiahgnkgbfcfaaDoor.PNaturalTexts
open Go.RowKit Go.Proofs.YtaiahgnkgbfcfaaDoorW.PrintWords Go.Proofs.YtaiahgnkgbfcfaaDoorW.PrintLast Go.Proofs.YtaiahgnkgbfcfaaDoorW.PrintMore
attribute [local go_sem] max2_int min2_int max_two min_two max_three min_three max_four min_four   -- for this text's walks alone
set_option linter.unusedVariables false
set_option linter.unusedSimpArgs false

/-! ### abacistlaw31_NaturalTexts: function 3 -/
mutual
def abacistlaw31_NaturalTexts.j0 : Nat → List Int → ByteArray → Int → Bool → Option (Bool)
  | 0, _, _, _, _ => none
  | k + 1, x0, x1, x2, x26 => if x26 = true then (some true) else ((natural_Read.f k x1).bind fun bt317 => (if x1.toList = ([] : List UInt8) then (abacistlaw31_NaturalTexts.j1 k x0 x1 x2 bt317.1 bt317.2 false) else (if 0 < (x1.size : Int) then (if (bt x1 0) = 48 then (abacistlaw31_NaturalTexts.j1 k x0 x1 x2 bt317.1 bt317.2 ((x1.size : Int) == 1)) else (abacistlaw31_NaturalTexts.j1 k x0 x1 x2 bt317.1 bt317.2 true)) else (none))))
def abacistlaw31_NaturalTexts.j1 : Nat → List Int → ByteArray → Int → List Int → Int → Bool → Option (Bool)
  | 0, _, _, _, _, _, _ => none
  | k + 1, x0, x1, x2, x7, x8, x9 => abacistlaw31_NaturalTexts.l0 k x0 x1 x2 x7 x8 x9 0
def abacistlaw31_NaturalTexts.l0 : Nat → List Int → ByteArray → Int → List Int → Int → Bool → Int → Option (Bool)
  | 0, _, _, _, _, _, _, _ => none
  | k + 1, x0, x1, x2, x7, x8, x9, x10 => if x10 < (x1.size : Int) then (if x9 = true then (if 0 ≤ x10 then (if (bt x1 x10) ≥ 48 then (abacistlaw31_NaturalTexts.l0 k x0 x1 x2 x7 x8 (decide ((bt x1 x10) ≤ 57)) (wrap64 (x10 + 1))) else (abacistlaw31_NaturalTexts.l0 k x0 x1 x2 x7 x8 false (wrap64 (x10 + 1)))) else (none)) else (abacistlaw31_NaturalTexts.l0 k x0 x1 x2 x7 x8 false (wrap64 (x10 + 1)))) else (if x9 = true then ((natural_Text.f k x7).bind fun bt321 => (if x8 = 0 then (if bt321.2 = 0 then (if bt321.1.toList = x1.toList then ((abacistref31_Read.f k x1).bind fun t323 => ((abacistref04_Same.f k x7 t323).bind fun t326 => (if t326 = true then (abacistlaw31_NaturalTexts.j3 k x0 x2) else (some false)))) else (some false)) else (some false)) else (some false))) else (if x8 = 17 then (if (x7.length : Int) = 0 then (abacistlaw31_NaturalTexts.j3 k x0 x2) else (some false)) else (some false)))
def abacistlaw31_NaturalTexts.j3 : Nat → List Int → Int → Option (Bool)
  | 0, _, _ => none
  | k + 1, x0, x2 => (natural_Of.f k x2).bind fun t327 => ((natural_Text.f k t327).bind fun bt330 => (if bt330.2 = 0 then ((abacistref04_Digits.f k x2).bind fun t332 => (abacistlaw31_NaturalTexts.j4 k x0 (bt330.1.toList != t332.toList))) else (abacistlaw31_NaturalTexts.j4 k x0 true)))
def abacistlaw31_NaturalTexts.j4 : Nat → List Int → Bool → Option (Bool)
  | 0, _, _ => none
  | k + 1, x0, x108 => if x108 = true then (some false) else ((natural_Text.f k x0).bind fun bt333 => ((abacistref31_Good.f k x0).bind fun t335 => (if t335 = true then ((natural_Good.f x0).bind fun t336 => (if t336 = true then (if bt333.2 = 0 then ((abacistref31_Read.f k bt333.1).bind fun t337 => ((abacistref04_Same.f k t337 x0).bind fun t340 => (some t340))) else (some false)) else (some false))) else ((natural_Good.f x0).bind fun t341 => (if t341 = true then (some false) else (if bt333.2 = 10 then (some (bt333.1.toList == ([] : List UInt8))) else (some false)))))))
end
def abacistlaw31_NaturalTexts.f (k : Nat) (l0 : List Int) (a1 : ByteArray) (a2 : Int) : Option (Bool) := (abacistlaw31_awake.f k).bind fun t316 => (if t316 = true then (if (l0.length : Int) > 20 then (abacistlaw31_NaturalTexts.j0 k l0 a1 a2 true) else (abacistlaw31_NaturalTexts.j0 k l0 a1 a2 (decide ((a1.size : Int) > 100)))) else (some false))
theorem abacistlaw31_NaturalTexts.mono_l : ∀ k, (∀ y0 y1 y2 y3, LeO (abacistlaw31_NaturalTexts.j0 k y0 y1 y2 y3) (abacistlaw31_NaturalTexts.j0 (k + 1) y0 y1 y2 y3)) ∧ (∀ y0 y1 y2 y3 y4 y5, LeO (abacistlaw31_NaturalTexts.j1 k y0 y1 y2 y3 y4 y5) (abacistlaw31_NaturalTexts.j1 (k + 1) y0 y1 y2 y3 y4 y5)) ∧ (∀ y0 y1 y2 y3 y4 y5 y6, LeO (abacistlaw31_NaturalTexts.l0 k y0 y1 y2 y3 y4 y5 y6) (abacistlaw31_NaturalTexts.l0 (k + 1) y0 y1 y2 y3 y4 y5 y6)) ∧ (∀ y0 y1, LeO (abacistlaw31_NaturalTexts.j3 k y0 y1) (abacistlaw31_NaturalTexts.j3 (k + 1) y0 y1)) ∧ (∀ y0 y1, LeO (abacistlaw31_NaturalTexts.j4 k y0 y1) (abacistlaw31_NaturalTexts.j4 (k + 1) y0 y1))
  | 0 => ⟨fun _ _ _ _ r h => by simp [abacistlaw31_NaturalTexts.j0] at h, fun _ _ _ _ _ _ r h => by simp [abacistlaw31_NaturalTexts.j1] at h, fun _ _ _ _ _ _ _ r h => by simp [abacistlaw31_NaturalTexts.l0] at h, fun _ _ r h => by simp [abacistlaw31_NaturalTexts.j3] at h, fun _ _ r h => by simp [abacistlaw31_NaturalTexts.j4] at h⟩
  | k + 1 => by
    obtain ⟨ih0, ih1, ih2, ih3, ih4⟩ := abacistlaw31_NaturalTexts.mono_l k
    refine ⟨?_, ?_, ?_, ?_, ?_⟩
    · intro y0 y1 y2 y3
      unfold abacistlaw31_NaturalTexts.j0
      repeat' first
      | (with_reducible exact ih0 _ _ _ _)
      | (with_reducible exact ih1 _ _ _ _ _ _)
      | (with_reducible exact ih2 _ _ _ _ _ _ _)
      | (with_reducible exact ih3 _ _)
      | (with_reducible exact ih4 _ _)
      | (with_reducible exact abacistlaw31_awake.mono _)
      | (with_reducible exact abacistref04_Digits.mono _ _)
      | (with_reducible exact abacistref04_Same.mono _ _ _)
      | (with_reducible exact abacistref31_Good.mono _ _)
      | (with_reducible exact abacistref31_Read.mono _ _)
      | (with_reducible exact natural_Of.mono _ _)
      | (with_reducible exact natural_Read.mono _ _)
      | (with_reducible exact natural_Text.mono _ _)
      | (with_reducible exact LeO.refl _)
      | (with_reducible exact LeO.none _)
      | (with_reducible refine LeO.ite ?_ ?_)
      | (with_reducible refine LeO.bind ?_ (fun _ => ?_))
      | exact ih0 _ _ _ _
      | exact ih1 _ _ _ _ _ _
      | exact ih2 _ _ _ _ _ _ _
      | exact ih3 _ _
      | exact ih4 _ _
      | exact abacistlaw31_awake.mono _
      | exact abacistref04_Digits.mono _ _
      | exact abacistref04_Same.mono _ _ _
      | exact abacistref31_Good.mono _ _
      | exact abacistref31_Read.mono _ _
      | exact natural_Of.mono _ _
      | exact natural_Read.mono _ _
      | exact natural_Text.mono _ _
      | exact LeO.none _
      | refine LeO.ite ?_ ?_
      | refine LeO.bind ?_ (fun _ => ?_)
    · intro y0 y1 y2 y3 y4 y5
      unfold abacistlaw31_NaturalTexts.j1
      repeat' first
      | (with_reducible exact ih0 _ _ _ _)
      | (with_reducible exact ih1 _ _ _ _ _ _)
      | (with_reducible exact ih2 _ _ _ _ _ _ _)
      | (with_reducible exact ih3 _ _)
      | (with_reducible exact ih4 _ _)
      | (with_reducible exact abacistlaw31_awake.mono _)
      | (with_reducible exact abacistref04_Digits.mono _ _)
      | (with_reducible exact abacistref04_Same.mono _ _ _)
      | (with_reducible exact abacistref31_Good.mono _ _)
      | (with_reducible exact abacistref31_Read.mono _ _)
      | (with_reducible exact natural_Of.mono _ _)
      | (with_reducible exact natural_Read.mono _ _)
      | (with_reducible exact natural_Text.mono _ _)
      | (with_reducible exact LeO.refl _)
      | (with_reducible exact LeO.none _)
      | (with_reducible refine LeO.ite ?_ ?_)
      | (with_reducible refine LeO.bind ?_ (fun _ => ?_))
      | exact ih0 _ _ _ _
      | exact ih1 _ _ _ _ _ _
      | exact ih2 _ _ _ _ _ _ _
      | exact ih3 _ _
      | exact ih4 _ _
      | exact abacistlaw31_awake.mono _
      | exact abacistref04_Digits.mono _ _
      | exact abacistref04_Same.mono _ _ _
      | exact abacistref31_Good.mono _ _
      | exact abacistref31_Read.mono _ _
      | exact natural_Of.mono _ _
      | exact natural_Read.mono _ _
      | exact natural_Text.mono _ _
      | exact LeO.none _
      | refine LeO.ite ?_ ?_
      | refine LeO.bind ?_ (fun _ => ?_)
    · intro y0 y1 y2 y3 y4 y5 y6
      unfold abacistlaw31_NaturalTexts.l0
      repeat' first
      | (with_reducible exact ih0 _ _ _ _)
      | (with_reducible exact ih1 _ _ _ _ _ _)
      | (with_reducible exact ih2 _ _ _ _ _ _ _)
      | (with_reducible exact ih3 _ _)
      | (with_reducible exact ih4 _ _)
      | (with_reducible exact abacistlaw31_awake.mono _)
      | (with_reducible exact abacistref04_Digits.mono _ _)
      | (with_reducible exact abacistref04_Same.mono _ _ _)
      | (with_reducible exact abacistref31_Good.mono _ _)
      | (with_reducible exact abacistref31_Read.mono _ _)
      | (with_reducible exact natural_Of.mono _ _)
      | (with_reducible exact natural_Read.mono _ _)
      | (with_reducible exact natural_Text.mono _ _)
      | (with_reducible exact LeO.refl _)
      | (with_reducible exact LeO.none _)
      | (with_reducible refine LeO.ite ?_ ?_)
      | (with_reducible refine LeO.bind ?_ (fun _ => ?_))
      | exact ih0 _ _ _ _
      | exact ih1 _ _ _ _ _ _
      | exact ih2 _ _ _ _ _ _ _
      | exact ih3 _ _
      | exact ih4 _ _
      | exact abacistlaw31_awake.mono _
      | exact abacistref04_Digits.mono _ _
      | exact abacistref04_Same.mono _ _ _
      | exact abacistref31_Good.mono _ _
      | exact abacistref31_Read.mono _ _
      | exact natural_Of.mono _ _
      | exact natural_Read.mono _ _
      | exact natural_Text.mono _ _
      | exact LeO.none _
      | refine LeO.ite ?_ ?_
      | refine LeO.bind ?_ (fun _ => ?_)
    · intro y0 y1
      unfold abacistlaw31_NaturalTexts.j3
      repeat' first
      | (with_reducible exact ih0 _ _ _ _)
      | (with_reducible exact ih1 _ _ _ _ _ _)
      | (with_reducible exact ih2 _ _ _ _ _ _ _)
      | (with_reducible exact ih3 _ _)
      | (with_reducible exact ih4 _ _)
      | (with_reducible exact abacistlaw31_awake.mono _)
      | (with_reducible exact abacistref04_Digits.mono _ _)
      | (with_reducible exact abacistref04_Same.mono _ _ _)
      | (with_reducible exact abacistref31_Good.mono _ _)
      | (with_reducible exact abacistref31_Read.mono _ _)
      | (with_reducible exact natural_Of.mono _ _)
      | (with_reducible exact natural_Read.mono _ _)
      | (with_reducible exact natural_Text.mono _ _)
      | (with_reducible exact LeO.refl _)
      | (with_reducible exact LeO.none _)
      | (with_reducible refine LeO.ite ?_ ?_)
      | (with_reducible refine LeO.bind ?_ (fun _ => ?_))
      | exact ih0 _ _ _ _
      | exact ih1 _ _ _ _ _ _
      | exact ih2 _ _ _ _ _ _ _
      | exact ih3 _ _
      | exact ih4 _ _
      | exact abacistlaw31_awake.mono _
      | exact abacistref04_Digits.mono _ _
      | exact abacistref04_Same.mono _ _ _
      | exact abacistref31_Good.mono _ _
      | exact abacistref31_Read.mono _ _
      | exact natural_Of.mono _ _
      | exact natural_Read.mono _ _
      | exact natural_Text.mono _ _
      | exact LeO.none _
      | refine LeO.ite ?_ ?_
      | refine LeO.bind ?_ (fun _ => ?_)
    · intro y0 y1
      unfold abacistlaw31_NaturalTexts.j4
      repeat' first
      | (with_reducible exact ih0 _ _ _ _)
      | (with_reducible exact ih1 _ _ _ _ _ _)
      | (with_reducible exact ih2 _ _ _ _ _ _ _)
      | (with_reducible exact ih3 _ _)
      | (with_reducible exact ih4 _ _)
      | (with_reducible exact abacistlaw31_awake.mono _)
      | (with_reducible exact abacistref04_Digits.mono _ _)
      | (with_reducible exact abacistref04_Same.mono _ _ _)
      | (with_reducible exact abacistref31_Good.mono _ _)
      | (with_reducible exact abacistref31_Read.mono _ _)
      | (with_reducible exact natural_Of.mono _ _)
      | (with_reducible exact natural_Read.mono _ _)
      | (with_reducible exact natural_Text.mono _ _)
      | (with_reducible exact LeO.refl _)
      | (with_reducible exact LeO.none _)
      | (with_reducible refine LeO.ite ?_ ?_)
      | (with_reducible refine LeO.bind ?_ (fun _ => ?_))
      | exact ih0 _ _ _ _
      | exact ih1 _ _ _ _ _ _
      | exact ih2 _ _ _ _ _ _ _
      | exact ih3 _ _
      | exact ih4 _ _
      | exact abacistlaw31_awake.mono _
      | exact abacistref04_Digits.mono _ _
      | exact abacistref04_Same.mono _ _ _
      | exact abacistref31_Good.mono _ _
      | exact abacistref31_Read.mono _ _
      | exact natural_Of.mono _ _
      | exact natural_Read.mono _ _
      | exact natural_Text.mono _ _
      | exact LeO.none _
      | refine LeO.ite ?_ ?_
      | refine LeO.bind ?_ (fun _ => ?_)
theorem abacistlaw31_NaturalTexts.mono : ∀ a0 a1 a2 k, LeO (abacistlaw31_NaturalTexts.f k a0 a1 a2) (abacistlaw31_NaturalTexts.f (k + 1) a0 a1 a2) := by
  intro a0 a1 a2 k
  obtain ⟨ih0, ih1, ih2, ih3, ih4⟩ := abacistlaw31_NaturalTexts.mono_l k
  unfold abacistlaw31_NaturalTexts.f
  repeat' first
      | (with_reducible exact ih0 _ _ _ _)
      | (with_reducible exact ih1 _ _ _ _ _ _)
      | (with_reducible exact ih2 _ _ _ _ _ _ _)
      | (with_reducible exact ih3 _ _)
      | (with_reducible exact ih4 _ _)
      | (with_reducible exact abacistlaw31_awake.mono _)
      | (with_reducible exact abacistref04_Digits.mono _ _)
      | (with_reducible exact abacistref04_Same.mono _ _ _)
      | (with_reducible exact abacistref31_Good.mono _ _)
      | (with_reducible exact abacistref31_Read.mono _ _)
      | (with_reducible exact natural_Of.mono _ _)
      | (with_reducible exact natural_Read.mono _ _)
      | (with_reducible exact natural_Text.mono _ _)
      | (with_reducible exact LeO.refl _)
      | (with_reducible exact LeO.none _)
      | (with_reducible refine LeO.ite ?_ ?_)
      | (with_reducible refine LeO.bind ?_ (fun _ => ?_))
      | exact ih0 _ _ _ _
      | exact ih1 _ _ _ _ _ _
      | exact ih2 _ _ _ _ _ _ _
      | exact ih3 _ _
      | exact ih4 _ _
      | exact abacistlaw31_awake.mono _
      | exact abacistref04_Digits.mono _ _
      | exact abacistref04_Same.mono _ _ _
      | exact abacistref31_Good.mono _ _
      | exact abacistref31_Read.mono _ _
      | exact natural_Of.mono _ _
      | exact natural_Read.mono _ _
      | exact natural_Text.mono _ _
      | exact LeO.none _
      | refine LeO.ite ?_ ?_
      | refine LeO.bind ?_ (fun _ => ?_)
set_option maxHeartbeats 80000000 in
set_option maxRecDepth 100000 in
theorem abacistlaw31_NaturalTexts.calls (k : Nat) (A0 : Option Addr) (c0 : Nat) (l0 : List Int) (a1 : ByteArray) (a2 : Int) (r : Bool) (hr_ : Aside0 (r = true)) (w : World) (hr0 : Kd.C (Kd.int .u64) w A0 l0.length l0) (hc0 : l0.length ≤ c0) (h : abacistlaw31_NaturalTexts.f k l0 a1 a2 = some r) :
    Calls Tryd.prog 3 #[.slice A0 l0.length c0, .string a1, .int .u64 a2] w fun e w' => e = .returned (.bool r) ∧ Below w.heap.size w w' := by
  have HR0 := Aside0.mk hr0
  have HC0 := Aside0.mk hc0
  clear hr0 hc0
  have HB := Aside0.mk (Below.refl w.heap.size w)
  have H : ((abacistlaw31_awake.f k).bind fun t316 => (if t316 = true then (if (l0.length : Int) > 20 then (abacistlaw31_NaturalTexts.j0 k l0 a1 a2 true) else (abacistlaw31_NaturalTexts.j0 k l0 a1 a2 (decide ((a1.size : Int) > 100)))) else (some false))) = some r := h
  clear h
  replace H := Option.bind_eq_some_iff.mp H
  obtain ⟨t316, A40, H⟩ := H
  replace H : (if t316 = true then (if (l0.length : Int) > 20 then (abacistlaw31_NaturalTexts.j0 k l0 a1 a2 true) else (abacistlaw31_NaturalTexts.j0 k l0 a1 a2 (decide ((a1.size : Int) > 100)))) else (some false)) = some r := H
  have A4 := Aside0.mk A40
  clear A40
  by_cases c5 : t316 = true
  · subst c5
    have H1 : (if (l0.length : Int) > 20 then (abacistlaw31_NaturalTexts.j0 k l0 a1 a2 true) else (abacistlaw31_NaturalTexts.j0 k l0 a1 a2 (decide ((a1.size : Int) > 100)))) = some r := by rw [if_pos rfl] at H; exact H
    clear H
    have H := H1
    clear H1
    have HC6 := Aside0.mk H
    clear H
    go_enter Tryd.func3, Tryd.ntmps3
    go_upto_region 3 with (first | ((with_reducible refine gate_callee (f := 4) rfl ?_); refine goesL_ (some 17) rfl rfl Tryd.func4 (by kernel_rfl) rfl #[] rfl (by (try simp only [List.map_toArray, List.map_cons, List.map_nil]); first | done | rfl | (simp only [List.length_drop, List.length_take]; rfl)) ?_; (with_reducible refine (abacistlaw31_awake.calls k  true _ A4.out).mono ?_); rintro e w7 ⟨rfl, hb⟩; refine ⟨_, rfl, ?_⟩; have n0_ := Aside0.mk (below_step (by repeat (first | (with_reducible first | exact HB.out | apply below_alloc | apply pw_below_drewN | apply below_drew1) | exact HB.out)) hb); clear HB; have HB := n0_; clear n0_; (try clear hb); (try clear hb2); (try clear hk); (try clear hi)) | (go_at_call 4; (with_reducible refine (abacistlaw31_awake.calls k  true _ A4.out).mono ?_); rintro e w7 ⟨rfl, hb⟩; have n0_ := Aside0.mk (below_step (by repeat (first | (with_reducible first | exact HB.out | apply below_alloc | apply pw_below_drewN | apply below_drew1) | exact HB.out)) hb); clear HB; have HB := n0_; clear n0_; (try clear hb); (try clear hb2); (try clear hk); (try clear hi)))
    (try simp only [Act.put, List.setIfInBounds_toArray, List.set_cons_zero, List.set_cons_succ])
    go_cut [26] (fun v26 wc => ∃ (kq : Nat) (x26_5 : Bool), v26 = .bool x26_5 ∧ Aside0 (abacistlaw31_NaturalTexts.j0 kq l0 a1 a2 x26_5 = some r) ∧ Aside0 (kq ≤ k) ∧ Aside0 (Below w.heap.size w wc))
    case first =>
      have H := HC6.out
      clear HC6
      by_cases c8 : (l0.length : Int) > 20
      · rw [if_pos c8] at H
        have c8b0 : decide (20 < (l0.length : Int)) = true := decide_eq_true c8
        have c8b1 : decide (20 < l0.length) = true := decide_eq_true (by omega)
        clear c8
        (first | rw [c8b0] | (simp only [i64_w, i32_w]; rw [c8b0]) | skip)
        have H' := Aside0.mk H
        clear H
        go_wp2
        go_meet
        case rel => exact ⟨_, (true), (by first | rfl | (simp; done) | (simp [*]; done)), H', ⟨by first | omega | exact Nat.le_refl _⟩, ⟨by repeat (first | (with_reducible first | exact HB.out | apply below_alloc | apply pw_below_drewN | apply below_drew1) | exact HB.out)⟩⟩
      · rw [if_neg c8] at H
        have c8b0 : decide (20 < (l0.length : Int)) = false := decide_eq_false c8
        have c8b1 : decide (20 < l0.length) = false := decide_eq_false (by omega)
        clear c8
        (first | rw [c8b0] | (simp only [i64_w, i32_w]; rw [c8b0]) | skip)
        have H' := Aside0.mk H
        clear H
        go_wp2
        go_meet
        case rel => exact ⟨_, (decide ((a1.size : Int) > 100)), (by first | rfl | (simp; done) | (simp [*]; done)), H', ⟨by first | omega | exact Nat.le_refl _⟩, ⟨by repeat (first | (with_reducible first | exact HB.out | apply below_alloc | apply pw_below_drewN | apply below_drew1) | exact HB.out)⟩⟩
    case rest =>
      clear HC6
      try clear p2
      try clear c3
      try clear c4
      try clear c5
      try clear c8
      try clear c8b0
      try clear c8b1
      obtain ⟨kq, x26_5, rfl, HA, HJ5, HB⟩ := hcut
      cases kq with
      | zero => exact absurd HA.out (by simp [abacistlaw31_NaturalTexts.j0])
      | succ kj5 =>
        have H := HA.out
        clear HA
        simp only [abacistlaw31_NaturalTexts.j0] at H
        by_cases c9 : x26_5 = true
        · subst c9
          have H1 : (some true) = some r := by rw [if_pos rfl] at H; exact H
          clear H
          have H := H1
          clear H1
          obtain rfl := Option.some.inj H
          go_wp2
          go_ret
          exact ⟨by first | rfl | (simp [errW_none, errW_some] <;> rfl) | (simp [*, errW_none, errW_some] <;> rfl), by repeat (first | (with_reducible first | exact HB.out | apply below_alloc | apply pw_below_drewN | apply below_drew1) | exact HB.out)⟩
        · replace c9 := Bool.eq_false_iff.mpr c9
          subst c9
          have H1 : ((natural_Read.f kj5 a1).bind fun bt317 => (if a1.toList = ([] : List UInt8) then (abacistlaw31_NaturalTexts.j1 kj5 l0 a1 a2 bt317.1 bt317.2 false) else (if 0 < (a1.size : Int) then (if (bt a1 0) = 48 then (abacistlaw31_NaturalTexts.j1 kj5 l0 a1 a2 bt317.1 bt317.2 ((a1.size : Int) == 1)) else (abacistlaw31_NaturalTexts.j1 kj5 l0 a1 a2 bt317.1 bt317.2 true)) else (none)))) = some r := by rw [if_neg (show ¬ (false = true) by decide)] at H; exact H
          clear H
          have H := H1
          clear H1
          replace H := Option.bind_eq_some_iff.mp H
          obtain ⟨⟨t317, t318⟩, A100, H⟩ := H
          replace H : (if a1.toList = ([] : List UInt8) then (abacistlaw31_NaturalTexts.j1 kj5 l0 a1 a2 t317 t318 false) else (if 0 < (a1.size : Int) then (if (bt a1 0) = 48 then (abacistlaw31_NaturalTexts.j1 kj5 l0 a1 a2 t317 t318 ((a1.size : Int) == 1)) else (abacistlaw31_NaturalTexts.j1 kj5 l0 a1 a2 t317 t318 true)) else (none))) = some r := H
          have A10 := Aside0.mk A100
          clear A100
          have HC11 := Aside0.mk H
          clear H
          go_upto_region 6 with (first | ((with_reducible refine gate_callee (f := 5) rfl ?_); refine goesL_ (some 29) rfl rfl Tryd.func5 (by kernel_rfl) rfl #[.string a1] rfl (by (try simp only [List.map_toArray, List.map_cons, List.map_nil]); first | done | rfl | (simp only [List.length_drop, List.length_take]; rfl)) ?_; (with_reducible refine (natural_Read.calls kj5 a1 t317 t318 _ A10.out).mono ?_); rintro e w12 ⟨v319, rfl, ho0, hb⟩; refine ⟨_, rfl, ?_⟩; have n0_ := Aside0.mk (Kd.R_lower ho0 (below_size (by repeat (first | (with_reducible first | exact HB.out | apply below_alloc | apply pw_below_drewN | apply below_drew1) | exact HB.out)))); have n1_ := Aside0.mk (below_step (by repeat (first | (with_reducible first | exact HB.out | apply below_alloc | apply pw_below_drewN | apply below_drew1) | exact HB.out)) hb); clear HB; have HO320 := n0_; have HB := n1_; clear n0_ n1_; (try clear hb); (try clear hb2); (try clear hk); (try clear hi); (try clear ho0)) | (go_at_call 5; (with_reducible refine (natural_Read.calls kj5 a1 t317 t318 _ A10.out).mono ?_); rintro e w12 ⟨v319, rfl, ho0, hb⟩; have n0_ := Aside0.mk (Kd.R_lower ho0 (below_size (by repeat (first | (with_reducible first | exact HB.out | apply below_alloc | apply pw_below_drewN | apply below_drew1) | exact HB.out)))); have n1_ := Aside0.mk (below_step (by repeat (first | (with_reducible first | exact HB.out | apply below_alloc | apply pw_below_drewN | apply below_drew1) | exact HB.out)) hb); clear HB; have HO320 := n0_; have HB := n1_; clear n0_ n1_; (try clear hb); (try clear hb2); (try clear hk); (try clear hi); (try clear ho0)))
          (try simp only [Act.put, List.setIfInBounds_toArray, List.set_cons_zero, List.set_cons_succ])
          go_cut [9] (fun v9 wc => ∃ (kq : Nat) (x9_10 : Bool), v9 = .bool x9_10 ∧ Aside0 (abacistlaw31_NaturalTexts.j1 kq l0 a1 a2 t317 t318 x9_10 = some r) ∧ Aside0 (kq ≤ kj5) ∧ Aside0 (Kd.R (Kd.int .u64) 23 wc w.heap.size (fun _ => True) v319 t317) ∧ Aside0 (Below w.heap.size w wc))
          case first =>
            have H := HC11.out
            clear HC11
            by_cases c13 : a1.toList = ([] : List UInt8)
            · rw [if_pos c13] at H
              have c13b0 : (a1.toList == ([] : List UInt8)) = true := beq_iff_eq.mpr c13
              have c13b1 : (a1.toList != ([] : List UInt8)) = false := bne_eq_false_iff_eq.mpr c13
              clear c13
              (first | rw [c13b0] | (simp only [i64_w, i32_w]; rw [c13b0]) | skip)
              have H' := Aside0.mk H
              clear H
              go_wp2
              go_meet
              case rel => exact ⟨_, (false), (by first | rfl | (simp; done) | (simp [*]; done)), H', ⟨by have := HJ5.out; first | omega | exact Nat.le_refl _⟩, ⟨by (with_reducible repeat (first | apply Kd.R_alloc | apply Kd.R_drewN | apply Kd.R_drew)); exact HO320.out⟩, ⟨by repeat (first | (with_reducible first | exact HB.out | apply below_alloc | apply pw_below_drewN | apply below_drew1) | exact HB.out)⟩⟩
            · rw [if_neg c13] at H
              have c13b0 : (a1.toList == ([] : List UInt8)) = false := beq_eq_false_iff_ne.mpr c13
              have c13b1 : (a1.toList != ([] : List UInt8)) = true := bne_iff_ne.mpr c13
              (first | rw [c13b0] | (simp only [i64_w, i32_w]; rw [c13b0]) | skip)
              by_cases c14 : 0 < (a1.size : Int)
              · rw [if_pos c14] at H
                have c14b0 : decide (0 < (a1.size : Int)) = true := decide_eq_true c14
                have c14b1 : decide (0 < a1.size) = true := decide_eq_true (by omega)
                clear c14
                by_cases c16 : (bt a1 0) = 48
                · rw [if_pos c16] at H
                  have c16b0 : ((bt a1 0) == 48) = true := beq_iff_eq.mpr c16
                  have c16b1 : ((bt a1 0) != 48) = false := bne_eq_false_iff_eq.mpr c16
                  clear c16
                  have H' := Aside0.mk H
                  clear H
                  have p15 : 0 ≤ (0 : Int) := (by omega)
                  have q15 : 0 < a1.size := (by have : (0 : Int) < (a1.size : Int) := of_decide_eq_true (by first | (with_reducible assumption) | assumption); omega)
                  have hx15 : ∀ h : 0 < a1.size, ((a1[0]'h).toNat : Int) = bt a1 0 := bt_at a1 0
                  clear p15
                  have qi15 : (0 < (a1.size : Int)) = True := eq_true (of_decide_eq_true (by first | (with_reducible assumption) | assumption))
                  replace q15 := eq_true q15
                  go_wp2
                  go_meet
                  case rel => exact ⟨_, (((a1.size : Int) == 1)), (by first | rfl | (simp; done) | (simp [*]; done)), H', ⟨by have := HJ5.out; first | omega | exact Nat.le_refl _⟩, ⟨by (with_reducible repeat (first | apply Kd.R_alloc | apply Kd.R_drewN | apply Kd.R_drew)); exact HO320.out⟩, ⟨by repeat (first | (with_reducible first | exact HB.out | apply below_alloc | apply pw_below_drewN | apply below_drew1) | exact HB.out)⟩⟩
                · rw [if_neg c16] at H
                  have c16b0 : ((bt a1 0) == 48) = false := beq_eq_false_iff_ne.mpr c16
                  have c16b1 : ((bt a1 0) != 48) = true := bne_iff_ne.mpr c16
                  have H' := Aside0.mk H
                  clear H
                  have p15 : 0 ≤ (0 : Int) := (by omega)
                  have q15 : 0 < a1.size := (by have : (0 : Int) < (a1.size : Int) := of_decide_eq_true (by first | (with_reducible assumption) | assumption); omega)
                  have hx15 : ∀ h : 0 < a1.size, ((a1[0]'h).toNat : Int) = bt a1 0 := bt_at a1 0
                  clear p15
                  have qi15 : (0 < (a1.size : Int)) = True := eq_true (of_decide_eq_true (by first | (with_reducible assumption) | assumption))
                  replace q15 := eq_true q15
                  go_wp2
                  go_meet
                  case rel => exact ⟨_, (true), (by first | rfl | (simp; done) | (simp [*]; done)), H', ⟨by have := HJ5.out; first | omega | exact Nat.le_refl _⟩, ⟨by (with_reducible repeat (first | apply Kd.R_alloc | apply Kd.R_drewN | apply Kd.R_drew)); exact HO320.out⟩, ⟨by repeat (first | (with_reducible first | exact HB.out | apply below_alloc | apply pw_below_drewN | apply below_drew1) | exact HB.out)⟩⟩
              · rw [if_neg c14] at H
                exact absurd H (by simp)
          case rest =>
            clear HC11
            try clear c1
            try clear p1
            try clear q1
            try clear hx1
            try clear qi1
            try clear p2
            try clear c3
            try clear c4
            try clear c5
            try clear c8
            try clear c8b0
            try clear c8b1
            try clear c9
            try clear c13
            try clear c13b0
            try clear c13b1
            try clear c14
            try clear c14b0
            try clear c14b1
            try clear p15
            try clear q15
            try clear hx15
            try clear qi15
            try clear c16
            try clear c16b0
            try clear c16b1
            try clear p15
            try clear p2
            try clear q15
            obtain ⟨kq, x9_10, rfl, HA, HJ10, HO_7, HB⟩ := hcut
            cases kq with
            | zero => exact absurd HA.out (by simp [abacistlaw31_NaturalTexts.j1])
            | succ kj10 =>
              have H := HA.out
              clear HA
              simp only [abacistlaw31_NaturalTexts.j1] at H
              have H' := Aside0.mk H
              clear H
              go_wp2
              go_loopg [9, 10] kj10 (fun kq v9 v10 w' => ∃ (x9_3 : Bool) (x10_3 : Int), v9 = .bool x9_3 ∧ v10 = .int .i64 x10_3 ∧ Aside0 (abacistlaw31_NaturalTexts.l0 kq l0 a1 a2 t317 t318 x9_3 x10_3 = some r) ∧ Aside0 (kq ≤ kj10) ∧ Aside0 (Kd.R (Kd.int .u64) 23 w' w.heap.size (fun _ => True) v319 t317) ∧ Aside0 (Below w.heap.size w w'))
              case atStart => exact ⟨(x9_10), (0), (by first | rfl | (simp; done) | (simp [*]; done)), (by first | rfl | (simp; done) | (simp [*]; done)), H', ⟨Nat.le_refl _⟩, ⟨by (with_reducible repeat (first | apply Kd.R_alloc | apply Kd.R_drewN | apply Kd.R_drew)); exact HO_7.out⟩, ⟨by repeat (first | (with_reducible first | exact HB.out | apply below_alloc | apply pw_below_drewN | apply below_drew1) | exact HB.out)⟩⟩
              case round =>
                clear H'
                try clear c1
                try clear p1
                try clear q1
                try clear hx1
                try clear qi1
                try clear p2
                try clear c3
                try clear c4
                try clear c5
                try clear c8
                try clear c8b0
                try clear c8b1
                try clear c9
                try clear c13
                try clear c13b0
                try clear c13b1
                try clear c14
                try clear c14b0
                try clear c14b1
                try clear p15
                try clear q15
                try clear hx15
                try clear qi15
                try clear c16
                try clear c16b0
                try clear c16b1
                try clear p1
                try clear p15
                try clear p2
                try clear q1
                try clear q15
                obtain ⟨x9_3, x10_3, rfl, rfl, HA, HK3, HO_7, HB⟩ := hrel
                cases gk with
                | zero => exact absurd HA.out (by simp [abacistlaw31_NaturalTexts.l0])
                | succ k3 =>
                  have H := HA.out
                  clear HA
                  simp only [abacistlaw31_NaturalTexts.l0] at H
                  by_cases c17 : x10_3 < (a1.size : Int)
                  · rw [if_pos c17] at H
                    have c17b0 : decide (x10_3 < (a1.size : Int)) = true := decide_eq_true c17
                    clear c17
                    by_cases c18 : x9_3 = true
                    · subst c18
                      have H1 : (if 0 ≤ x10_3 then (if (bt a1 x10_3) ≥ 48 then (abacistlaw31_NaturalTexts.l0 k3 l0 a1 a2 t317 t318 (decide ((bt a1 x10_3) ≤ 57)) (wrap64 (x10_3 + 1))) else (abacistlaw31_NaturalTexts.l0 k3 l0 a1 a2 t317 t318 false (wrap64 (x10_3 + 1)))) else (none)) = some r := by rw [if_pos rfl] at H; exact H
                      clear H
                      have H := H1
                      clear H1
                      by_cases c19 : 0 ≤ x10_3
                      · rw [if_pos c19] at H
                        have c19b0 : decide (0 ≤ x10_3) = true := decide_eq_true c19
                        clear c19
                        by_cases c21 : (bt a1 x10_3) ≥ 48
                        · rw [if_pos c21] at H
                          have c21b0 : decide (48 ≤ (bt a1 x10_3)) = true := decide_eq_true c21
                          clear c21
                          have H' := Aside0.mk H
                          clear H
                          have p20 : 0 ≤ (x10_3 : Int) := of_decide_eq_true (by first | (with_reducible assumption) | assumption)
                          have q20 : x10_3 < (a1.size : Int) := of_decide_eq_true (by first | (with_reducible assumption) | assumption)
                          have hx20 := bt_at a1 x10_3
                          replace p20 := eq_true p20
                          replace q20 := eq_true q20
                          have p22 : 0 ≤ (x10_3 : Int) := of_decide_eq_true (by first | (with_reducible assumption) | assumption)
                          have q22 : x10_3 < (a1.size : Int) := of_decide_eq_true (by first | (with_reducible assumption) | assumption)
                          have hx22 := bt_at a1 x10_3
                          replace p22 := eq_true p22
                          replace q22 := eq_true q22
                          go_wp2
                          (first | go_roundg k3 | (simp only [add_plain] at *; go_roundg k3))
                          case measure => have := HJ5.out; have := HJ10.out; have := HK3.out; omega
                          case rel => exact ⟨(decide ((bt a1 x10_3) ≤ 57)), (wrap64 (x10_3 + 1)), (by first | rfl | (simp; done) | (simp [*]; done)), (by first | rfl | (simp; done) | (simp [*]; done)), H', ⟨by have := HJ5.out; have := HJ10.out; have := HK3.out; omega⟩, ⟨by (with_reducible repeat (first | apply Kd.R_alloc | apply Kd.R_drewN | apply Kd.R_drew)); exact HO_7.out⟩, ⟨by repeat (first | (with_reducible first | exact HB.out | apply below_alloc | apply pw_below_drewN | apply below_drew1) | exact HB.out)⟩⟩
                        · rw [if_neg c21] at H
                          have c21b0 : decide (48 ≤ (bt a1 x10_3)) = false := decide_eq_false c21
                          clear c21
                          have H' := Aside0.mk H
                          clear H
                          have p20 : 0 ≤ (x10_3 : Int) := of_decide_eq_true (by first | (with_reducible assumption) | assumption)
                          have q20 : x10_3 < (a1.size : Int) := of_decide_eq_true (by first | (with_reducible assumption) | assumption)
                          have hx20 := bt_at a1 x10_3
                          replace p20 := eq_true p20
                          replace q20 := eq_true q20
                          go_wp2
                          (first | go_roundg k3 | (simp only [add_plain] at *; go_roundg k3))
                          case measure => have := HJ5.out; have := HJ10.out; have := HK3.out; omega
                          case rel => exact ⟨(false), (wrap64 (x10_3 + 1)), (by first | rfl | (simp; done) | (simp [*]; done)), (by first | rfl | (simp; done) | (simp [*]; done)), H', ⟨by have := HJ5.out; have := HJ10.out; have := HK3.out; omega⟩, ⟨by (with_reducible repeat (first | apply Kd.R_alloc | apply Kd.R_drewN | apply Kd.R_drew)); exact HO_7.out⟩, ⟨by repeat (first | (with_reducible first | exact HB.out | apply below_alloc | apply pw_below_drewN | apply below_drew1) | exact HB.out)⟩⟩
                      · rw [if_neg c19] at H
                        exact absurd H (by simp)
                    · replace c18 := Bool.eq_false_iff.mpr c18
                      subst c18
                      have H1 : (abacistlaw31_NaturalTexts.l0 k3 l0 a1 a2 t317 t318 false (wrap64 (x10_3 + 1))) = some r := by rw [if_neg (show ¬ (false = true) by decide)] at H; exact H
                      clear H
                      have H := H1
                      clear H1
                      have H' := Aside0.mk H
                      clear H
                      go_wp2
                      (first | go_roundg k3 | (simp only [add_plain] at *; go_roundg k3))
                      case measure => have := HJ5.out; have := HJ10.out; have := HK3.out; omega
                      case rel => exact ⟨(false), (wrap64 (x10_3 + 1)), (by first | rfl | (simp; done) | (simp [*]; done)), (by first | rfl | (simp; done) | (simp [*]; done)), H', ⟨by have := HJ5.out; have := HJ10.out; have := HK3.out; omega⟩, ⟨by (with_reducible repeat (first | apply Kd.R_alloc | apply Kd.R_drewN | apply Kd.R_drew)); exact HO_7.out⟩, ⟨by repeat (first | (with_reducible first | exact HB.out | apply below_alloc | apply pw_below_drewN | apply below_drew1) | exact HB.out)⟩⟩
                  · rw [if_neg c17] at H
                    have c17b0 : decide (x10_3 < (a1.size : Int)) = false := decide_eq_false c17
                    clear c17
                    have HC23 := Aside0.mk H
                    clear H
                    go_upto_if 64 with (fail)
                    go_cut [] (fun wc => ∃ (kq : Nat), Aside0 (abacistlaw31_NaturalTexts.j3 kq l0 a2 = some r) ∧ Aside0 (kq ≤ k3) ∧ Aside0 (Below w.heap.size w wc))
                    case first =>
                      have H := HC23.out
                      clear HC23
                      by_cases c24 : x9_3 = true
                      · subst c24
                        have H1 : ((natural_Text.f k3 t317).bind fun bt321 => (if t318 = 0 then (if bt321.2 = 0 then (if bt321.1.toList = a1.toList then ((abacistref31_Read.f k3 a1).bind fun t323 => ((abacistref04_Same.f k3 t317 t323).bind fun t326 => (if t326 = true then (abacistlaw31_NaturalTexts.j3 k3 l0 a2) else (some false)))) else (some false)) else (some false)) else (some false))) = some r := by rw [if_pos rfl] at H; exact H
                        clear H
                        have H := H1
                        clear H1
                        replace H := Option.bind_eq_some_iff.mp H
                        obtain ⟨⟨t321, t322⟩, A250, H⟩ := H
                        replace H : (if t318 = 0 then (if t322 = 0 then (if t321.toList = a1.toList then ((abacistref31_Read.f k3 a1).bind fun t323 => ((abacistref04_Same.f k3 t317 t323).bind fun t326 => (if t326 = true then (abacistlaw31_NaturalTexts.j3 k3 l0 a2) else (some false)))) else (some false)) else (some false)) else (some false)) = some r := H
                        have A25 := Aside0.mk A250
                        clear A250
                        by_cases c26 : t318 = 0
                        · rw [if_pos c26] at H
                          have c26b0 : (t318 == 0) = true := beq_iff_eq.mpr c26
                          have c26b1 : (t318 != 0) = false := bne_eq_false_iff_eq.mpr c26
                          clear c26
                          (first | rw [c26b0] | (simp only [i64_w, i32_w]; rw [c26b0]) | skip)
                          by_cases c27 : t322 = 0
                          · rw [if_pos c27] at H
                            have c27b0 : (t322 == 0) = true := beq_iff_eq.mpr c27
                            have c27b1 : (t322 != 0) = false := bne_eq_false_iff_eq.mpr c27
                            clear c27
                            by_cases c28 : t321.toList = a1.toList
                            · rw [if_pos c28] at H
                              have c28b0 : (t321.toList == a1.toList) = true := beq_iff_eq.mpr c28
                              have c28b1 : (t321.toList != a1.toList) = false := bne_eq_false_iff_eq.mpr c28
                              clear c28
                              replace H := Option.bind_eq_some_iff.mp H
                              obtain ⟨t323, A290, H⟩ := H
                              replace H : ((abacistref04_Same.f k3 t317 t323).bind fun t326 => (if t326 = true then (abacistlaw31_NaturalTexts.j3 k3 l0 a2) else (some false))) = some r := H
                              have A29 := Aside0.mk A290
                              clear A290
                              replace H := Option.bind_eq_some_iff.mp H
                              obtain ⟨t326, A300, H⟩ := H
                              replace H : (if t326 = true then (abacistlaw31_NaturalTexts.j3 k3 l0 a2) else (some false)) = some r := H
                              have A30 := Aside0.mk A300
                              clear A300
                              by_cases c31 : t326 = true
                              · subst c31
                                have H1 : (abacistlaw31_NaturalTexts.j3 k3 l0 a2) = some r := by rw [if_pos rfl] at H; exact H
                                clear H
                                have H := H1
                                clear H1
                                have H' := Aside0.mk H
                                clear H
                                obtain ⟨Ao32, co32, eo32⟩ := Kd.R_slice HO_7.out
                                subst eo32
                                go_wp2_with (first | ((with_reducible refine gate_callee (f := 6) rfl ?_); refine goesL_ (some 74) rfl rfl Tryd.func6 (by kernel_rfl) rfl #[.slice Ao32 t317.length co32] rfl (by (try simp only [List.map_toArray, List.map_cons, List.map_nil]); first | done | rfl | (simp only [List.length_drop, List.length_take]; rfl)) ?_; (with_reducible refine (natural_Text.calls k3 (fun k_ => some k_ = (.slice Ao32 t317.length co32 : Value).ownBlock) _ _ t317 t321 t322 _ ?side1 A25.out).mono ?_); (case side1 => exact Kd.R_V (Kd.R_tight rfl (HO_7.out))); rintro e w33 ⟨rfl, hb⟩; refine ⟨_, rfl, ?_⟩; have n0_ := Aside0.mk (Kd.R_below (by (with_reducible repeat (first | apply Kd.R_alloc | apply Kd.R_drewN | apply Kd.R_drew)); exact HO_7.out) hb); have n1_ := Aside0.mk (below_step (by repeat (first | (with_reducible first | exact HB.out | apply below_alloc | apply pw_below_drewN | apply below_drew1) | exact HB.out)) hb); clear HO_7; clear HB; have HO_7 := n0_; have HB := n1_; clear n0_ n1_; (try clear hb); (try clear hb2); (try clear hk); (try clear hi)) | (go_at_call 6; (with_reducible refine (natural_Text.calls k3 (fun k_ => some k_ = (.slice Ao32 t317.length co32 : Value).ownBlock) _ _ t317 t321 t322 _ ?side1 A25.out).mono ?_); (case side1 => exact Kd.R_V (Kd.R_tight rfl (HO_7.out))); rintro e w33 ⟨rfl, hb⟩; have n0_ := Aside0.mk (Kd.R_below (by (with_reducible repeat (first | apply Kd.R_alloc | apply Kd.R_drewN | apply Kd.R_drew)); exact HO_7.out) hb); have n1_ := Aside0.mk (below_step (by repeat (first | (with_reducible first | exact HB.out | apply below_alloc | apply pw_below_drewN | apply below_drew1) | exact HB.out)) hb); clear HO_7; clear HB; have HO_7 := n0_; have HB := n1_; clear n0_ n1_; (try clear hb); (try clear hb2); (try clear hk); (try clear hi)) | (go_at_call 8; (with_reducible refine (abacistref31_Read.calls k3 a1 t323 _ A29.out).mono ?_); rintro e w34 ⟨v324, rfl, ho0, hb⟩; have n0_ := Aside0.mk (Kd.R_elder' (by (with_reducible repeat (first | apply Kd.R_alloc | apply Kd.R_drewN | apply Kd.R_drew)); exact HO_7.out) (Kd.R_base ho0) hb); have n1_ := Aside0.mk (Kd.R_lower (Kd.R_new' ho0 (Kd.R_lt (by (with_reducible repeat (first | apply Kd.R_alloc | apply Kd.R_drewN | apply Kd.R_drew)); exact HO_7.out))) (below_size (by repeat (first | (with_reducible first | exact HB.out | apply below_alloc | apply pw_below_drewN | apply below_drew1) | exact HB.out)))); have n2_ := Aside0.mk (below_step (by repeat (first | (with_reducible first | exact HB.out | apply below_alloc | apply pw_below_drewN | apply below_drew1) | exact HB.out)) hb); clear HO_7; clear HB; have HO_7 := n0_; have HO325 := n1_; have HB := n2_; clear n0_ n1_ n2_; (try clear hb); (try clear hb2); (try clear hk); (try clear hi); (try clear ho0); obtain ⟨Ao35, co35, eo35⟩ := Kd.R_slice HO325.out; subst eo35) | (go_at_call 7; (with_reducible refine (abacistref04_Same.calls k3 _ _ t317 _ _ t323 true _ ?side1 ?side2 ?side3 ?side4 A30.out).mono ?_); (case side1 => repeat (first | exact (Kd.R_reads' HO_7.out).2.2 | (with_reducible refine Kd.C_alloc ?_ _) | (with_reducible refine Kd.C_drewN ?_ _) | (with_reducible refine Kd.C_drew ?_))); (case side2 => exact (Kd.R_reads' HO_7.out).2.1); (case side3 => repeat (first | exact (Kd.R_reads' HO325.out).2.2 | (with_reducible refine Kd.C_alloc ?_ _) | (with_reducible refine Kd.C_drewN ?_ _) | (with_reducible refine Kd.C_drew ?_))); (case side4 => exact (Kd.R_reads' HO325.out).2.1); rintro e w' ⟨rfl, ⟨nd, rfl⟩⟩))
                                go_meet
                                case rel => exact ⟨_, H', ⟨by have := HJ5.out; have := HJ10.out; have := HK3.out; first | omega | exact Nat.le_refl _⟩, ⟨by repeat (first | (with_reducible first | exact HB.out | apply below_alloc | apply pw_below_drewN | apply below_drew1) | exact HB.out)⟩⟩
                              · replace c31 := Bool.eq_false_iff.mpr c31
                                subst c31
                                have H1 : (some false) = some r := by rw [if_neg (show ¬ (false = true) by decide)] at H; exact H
                                clear H
                                have H := H1
                                clear H1
                                obtain rfl := Option.some.inj H
                                exact absurd hr_.out (by decide)
                            · rw [if_neg c28] at H
                              have c28b0 : (t321.toList == a1.toList) = false := beq_eq_false_iff_ne.mpr c28
                              have c28b1 : (t321.toList != a1.toList) = true := bne_iff_ne.mpr c28
                              obtain rfl := Option.some.inj H
                              exact absurd hr_.out (by decide)
                          · rw [if_neg c27] at H
                            have c27b0 : (t322 == 0) = false := beq_eq_false_iff_ne.mpr c27
                            have c27b1 : (t322 != 0) = true := bne_iff_ne.mpr c27
                            obtain rfl := Option.some.inj H
                            exact absurd hr_.out (by decide)
                        · rw [if_neg c26] at H
                          have c26b0 : (t318 == 0) = false := beq_eq_false_iff_ne.mpr c26
                          have c26b1 : (t318 != 0) = true := bne_iff_ne.mpr c26
                          (first | rw [c26b0] | (simp only [i64_w, i32_w]; rw [c26b0]) | skip)
                          obtain rfl := Option.some.inj H
                          exact absurd hr_.out (by decide)
                      · replace c24 := Bool.eq_false_iff.mpr c24
                        subst c24
                        have H1 : (if t318 = 17 then (if (t317.length : Int) = 0 then (abacistlaw31_NaturalTexts.j3 k3 l0 a2) else (some false)) else (some false)) = some r := by rw [if_neg (show ¬ (false = true) by decide)] at H; exact H
                        clear H
                        have H := H1
                        clear H1
                        by_cases c36 : t318 = 17
                        · rw [if_pos c36] at H
                          have c36b0 : (t318 == 17) = true := beq_iff_eq.mpr c36
                          have c36b1 : (t318 != 17) = false := bne_eq_false_iff_eq.mpr c36
                          clear c36
                          by_cases c37 : (t317.length : Int) = 0
                          · rw [if_pos c37] at H
                            have c37b0 : ((t317.length : Int) == 0) = true := beq_iff_eq.mpr c37
                            have c37b1 : ((t317.length : Int) != 0) = false := bne_eq_false_iff_eq.mpr c37
                            clear c37
                            have H' := Aside0.mk H
                            clear H
                            obtain ⟨Ao38, co38, eo38⟩ := Kd.R_slice HO_7.out
                            subst eo38
                            go_wp2
                            go_meet
                            case rel => exact ⟨_, H', ⟨by have := HJ5.out; have := HJ10.out; have := HK3.out; first | omega | exact Nat.le_refl _⟩, ⟨by repeat (first | (with_reducible first | exact HB.out | apply below_alloc | apply pw_below_drewN | apply below_drew1) | exact HB.out)⟩⟩
                          · rw [if_neg c37] at H
                            have c37b0 : ((t317.length : Int) == 0) = false := beq_eq_false_iff_ne.mpr c37
                            have c37b1 : ((t317.length : Int) != 0) = true := bne_iff_ne.mpr c37
                            have c37b2 : ¬ (t317 = []) := fun h_ => c37 (by rw [h_]; rfl)
                            obtain rfl := Option.some.inj H
                            exact absurd hr_.out (by decide)
                        · rw [if_neg c36] at H
                          have c36b0 : (t318 == 17) = false := beq_eq_false_iff_ne.mpr c36
                          have c36b1 : (t318 != 17) = true := bne_iff_ne.mpr c36
                          obtain rfl := Option.some.inj H
                          exact absurd hr_.out (by decide)
                    case rest =>
                      clear HC23
                      try clear c1
                      try clear p1
                      try clear q1
                      try clear hx1
                      try clear qi1
                      try clear c2
                      try clear p2
                      try clear q2
                      try clear hx2
                      try clear c3
                      try clear c4
                      try clear c5
                      try clear c6
                      try clear p6
                      try clear c8
                      try clear c8b0
                      try clear c8b1
                      try clear c9
                      try clear c13
                      try clear c13b0
                      try clear c13b1
                      try clear c14
                      try clear c14b0
                      try clear c14b1
                      try clear p15
                      try clear q15
                      try clear hx15
                      try clear qi15
                      try clear c16
                      try clear c16b0
                      try clear c16b1
                      try clear c17
                      try clear c17b0
                      try clear c18
                      try clear c19
                      try clear c19b0
                      try clear p20
                      try clear q20
                      try clear hx20
                      try clear c21
                      try clear c21b0
                      try clear p22
                      try clear q22
                      try clear hx22
                      try clear c24
                      try clear c26
                      try clear c26b0
                      try clear c26b1
                      try clear c27
                      try clear c27b0
                      try clear c27b1
                      try clear c28
                      try clear c28b0
                      try clear c28b1
                      try clear c31
                      try clear c36
                      try clear c36b0
                      try clear c36b1
                      try clear c37
                      try clear c37b0
                      try clear c37b1
                      try clear c37b2
                      try clear p1
                      try clear p15
                      try clear p2
                      try clear p20
                      try clear p22
                      try clear q1
                      try clear q15
                      try clear q20
                      try clear q22
                      obtain ⟨kq, HA, HJ22, HB⟩ := hcut
                      cases kq with
                      | zero => exact absurd HA.out (by simp [abacistlaw31_NaturalTexts.j3])
                      | succ kj22 =>
                        have H := HA.out
                        clear HA
                        simp only [abacistlaw31_NaturalTexts.j3] at H
                        replace H := Option.bind_eq_some_iff.mp H
                        obtain ⟨t327, A390, H⟩ := H
                        replace H : ((natural_Text.f kj22 t327).bind fun bt330 => (if bt330.2 = 0 then ((abacistref04_Digits.f kj22 a2).bind fun t332 => (abacistlaw31_NaturalTexts.j4 kj22 l0 (bt330.1.toList != t332.toList))) else (abacistlaw31_NaturalTexts.j4 kj22 l0 true))) = some r := H
                        have A39 := Aside0.mk A390
                        clear A390
                        replace H := Option.bind_eq_some_iff.mp H
                        obtain ⟨⟨t330, t331⟩, A400, H⟩ := H
                        replace H : (if t331 = 0 then ((abacistref04_Digits.f kj22 a2).bind fun t332 => (abacistlaw31_NaturalTexts.j4 kj22 l0 (t330.toList != t332.toList))) else (abacistlaw31_NaturalTexts.j4 kj22 l0 true)) = some r := H
                        have A40 := Aside0.mk A400
                        clear A400
                        have HC41 := Aside0.mk H
                        clear H
                        go_upto_region 18 with (first | ((with_reducible refine gate_callee (f := 9) rfl ?_); refine goesL_ (some 97) rfl rfl Tryd.func9 (by kernel_rfl) rfl #[.int .u64 a2] rfl (by (try simp only [List.map_toArray, List.map_cons, List.map_nil]); first | done | rfl | (simp only [List.length_drop, List.length_take]; rfl)) ?_; (with_reducible refine (natural_Of.calls kj22 a2 t327 _ A39.out).mono ?_); rintro e w42 ⟨v328, rfl, ho0, hb⟩; refine ⟨_, rfl, ?_⟩; have n0_ := Aside0.mk (Kd.R_lower ho0 (below_size (by repeat (first | (with_reducible first | exact HB.out | apply below_alloc | apply pw_below_drewN | apply below_drew1) | exact HB.out)))); have n1_ := Aside0.mk (below_step (by repeat (first | (with_reducible first | exact HB.out | apply below_alloc | apply pw_below_drewN | apply below_drew1) | exact HB.out)) hb); clear HB; have HO329 := n0_; have HB := n1_; clear n0_ n1_; (try clear hb); (try clear hb2); (try clear hk); (try clear hi); (try clear ho0); obtain ⟨Ao43, co43, eo43⟩ := Kd.R_slice HO329.out; subst eo43) | (go_at_call 9; (with_reducible refine (natural_Of.calls kj22 a2 t327 _ A39.out).mono ?_); rintro e w42 ⟨v328, rfl, ho0, hb⟩; have n0_ := Aside0.mk (Kd.R_lower ho0 (below_size (by repeat (first | (with_reducible first | exact HB.out | apply below_alloc | apply pw_below_drewN | apply below_drew1) | exact HB.out)))); have n1_ := Aside0.mk (below_step (by repeat (first | (with_reducible first | exact HB.out | apply below_alloc | apply pw_below_drewN | apply below_drew1) | exact HB.out)) hb); clear HB; have HO329 := n0_; have HB := n1_; clear n0_ n1_; (try clear hb); (try clear hb2); (try clear hk); (try clear hi); (try clear ho0); obtain ⟨Ao43, co43, eo43⟩ := Kd.R_slice HO329.out; subst eo43) | ((with_reducible refine gate_callee (f := 6) rfl ?_); refine goesL_ (some 98) rfl rfl Tryd.func6 (by kernel_rfl) rfl #[.slice Ao43 t327.length co43] rfl (by (try simp only [List.map_toArray, List.map_cons, List.map_nil]); first | done | rfl | (simp only [List.length_drop, List.length_take]; rfl)) ?_; (with_reducible refine (natural_Text.calls kj22 (fun k_ => some k_ = (.slice Ao43 t327.length co43 : Value).ownBlock) _ _ t327 t330 t331 _ ?side1 A40.out).mono ?_); (case side1 => exact Kd.R_V (Kd.R_tight rfl (HO329.out))); rintro e w44 ⟨rfl, hb⟩; refine ⟨_, rfl, ?_⟩; have n0_ := Aside0.mk (Kd.R_below (by (with_reducible repeat (first | apply Kd.R_alloc | apply Kd.R_drewN | apply Kd.R_drew)); exact HO329.out) hb); have n1_ := Aside0.mk (below_step (by repeat (first | (with_reducible first | exact HB.out | apply below_alloc | apply pw_below_drewN | apply below_drew1) | exact HB.out)) hb); clear HO329; clear HB; have HO329 := n0_; have HB := n1_; clear n0_ n1_; (try clear hb); (try clear hb2); (try clear hk); (try clear hi)) | (go_at_call 6; (with_reducible refine (natural_Text.calls kj22 (fun k_ => some k_ = (.slice Ao43 t327.length co43 : Value).ownBlock) _ _ t327 t330 t331 _ ?side1 A40.out).mono ?_); (case side1 => exact Kd.R_V (Kd.R_tight rfl (HO329.out))); rintro e w44 ⟨rfl, hb⟩; have n0_ := Aside0.mk (Kd.R_below (by (with_reducible repeat (first | apply Kd.R_alloc | apply Kd.R_drewN | apply Kd.R_drew)); exact HO329.out) hb); have n1_ := Aside0.mk (below_step (by repeat (first | (with_reducible first | exact HB.out | apply below_alloc | apply pw_below_drewN | apply below_drew1) | exact HB.out)) hb); clear HO329; clear HB; have HO329 := n0_; have HB := n1_; clear n0_ n1_; (try clear hb); (try clear hb2); (try clear hk); (try clear hi)))
                        (try simp only [Act.put, List.setIfInBounds_toArray, List.set_cons_zero, List.set_cons_succ])
                        go_cut [108] (fun v108 wc => ∃ (kq : Nat) (x108_40 : Bool), v108 = .bool x108_40 ∧ Aside0 (abacistlaw31_NaturalTexts.j4 kq l0 x108_40 = some r) ∧ Aside0 (kq ≤ kj22) ∧ Aside0 (Below w.heap.size w wc))
                        case first =>
                          have H := HC41.out
                          clear HC41
                          by_cases c45 : t331 = 0
                          · rw [if_pos c45] at H
                            have c45b0 : (t331 == 0) = true := beq_iff_eq.mpr c45
                            have c45b1 : (t331 != 0) = false := bne_eq_false_iff_eq.mpr c45
                            clear c45
                            (first | rw [c45b0] | (simp only [i64_w, i32_w]; rw [c45b0]) | skip)
                            replace H := Option.bind_eq_some_iff.mp H
                            obtain ⟨t332, A460, H⟩ := H
                            replace H : (abacistlaw31_NaturalTexts.j4 kj22 l0 (t330.toList != t332.toList)) = some r := H
                            have A46 := Aside0.mk A460
                            clear A460
                            have H' := Aside0.mk H
                            clear H
                            go_wp2_with (first | (go_at_call 10; (with_reducible refine (abacistref04_Digits.calls kj22 a2 t332 _ A46.out).mono ?_); rintro e w47 ⟨rfl, hb⟩; have n0_ := Aside0.mk (Kd.R_below (by (with_reducible repeat (first | apply Kd.R_alloc | apply Kd.R_drewN | apply Kd.R_drew)); exact HO329.out) hb); have n1_ := Aside0.mk (below_step (by repeat (first | (with_reducible first | exact HB.out | apply below_alloc | apply pw_below_drewN | apply below_drew1) | exact HB.out)) hb); clear HO329; clear HB; have HO329 := n0_; have HB := n1_; clear n0_ n1_; (try clear hb); (try clear hb2); (try clear hk); (try clear hi)))
                            go_meet
                            case rel => exact ⟨_, ((t330.toList != t332.toList)), (by first | rfl | (simp; done) | (simp [*]; done)), H', ⟨by have := HJ5.out; have := HJ10.out; have := HK3.out; have := HJ22.out; first | omega | exact Nat.le_refl _⟩, ⟨by repeat (first | (with_reducible first | exact HB.out | apply below_alloc | apply pw_below_drewN | apply below_drew1) | exact HB.out)⟩⟩
                          · rw [if_neg c45] at H
                            have c45b0 : (t331 == 0) = false := beq_eq_false_iff_ne.mpr c45
                            have c45b1 : (t331 != 0) = true := bne_iff_ne.mpr c45
                            (first | rw [c45b0] | (simp only [i64_w, i32_w]; rw [c45b0]) | skip)
                            have H' := Aside0.mk H
                            clear H
                            go_wp2
                            go_meet
                            case rel => exact ⟨_, (true), (by first | rfl | (simp; done) | (simp [*]; done)), H', ⟨by have := HJ5.out; have := HJ10.out; have := HK3.out; have := HJ22.out; first | omega | exact Nat.le_refl _⟩, ⟨by repeat (first | (with_reducible first | exact HB.out | apply below_alloc | apply pw_below_drewN | apply below_drew1) | exact HB.out)⟩⟩
                        case rest =>
                          clear HC41
                          try clear c1
                          try clear p1
                          try clear q1
                          try clear hx1
                          try clear qi1
                          try clear c2
                          try clear p2
                          try clear q2
                          try clear hx2
                          try clear c3
                          try clear c4
                          try clear c5
                          try clear c6
                          try clear p6
                          try clear c8
                          try clear c8b0
                          try clear c8b1
                          try clear c9
                          try clear c13
                          try clear c13b0
                          try clear c13b1
                          try clear c14
                          try clear c14b0
                          try clear c14b1
                          try clear p15
                          try clear q15
                          try clear hx15
                          try clear qi15
                          try clear c16
                          try clear c16b0
                          try clear c16b1
                          try clear c17
                          try clear c17b0
                          try clear c18
                          try clear c19
                          try clear c19b0
                          try clear p20
                          try clear q20
                          try clear hx20
                          try clear c21
                          try clear c21b0
                          try clear p22
                          try clear q22
                          try clear hx22
                          try clear c24
                          try clear c26
                          try clear c26b0
                          try clear c26b1
                          try clear c27
                          try clear c27b0
                          try clear c27b1
                          try clear c28
                          try clear c28b0
                          try clear c28b1
                          try clear c31
                          try clear c36
                          try clear c36b0
                          try clear c36b1
                          try clear c37
                          try clear c37b0
                          try clear c37b1
                          try clear c37b2
                          try clear c45
                          try clear c45b0
                          try clear c45b1
                          try clear p1
                          try clear p15
                          try clear p2
                          try clear p20
                          try clear p22
                          try clear p6
                          try clear q1
                          try clear q15
                          try clear q2
                          try clear q20
                          try clear q22
                          obtain ⟨kq, x108_40, rfl, HA, HJ40, HB⟩ := hcut
                          cases kq with
                          | zero => exact absurd HA.out (by simp [abacistlaw31_NaturalTexts.j4])
                          | succ kj40 =>
                            have H := HA.out
                            clear HA
                            simp only [abacistlaw31_NaturalTexts.j4] at H
                            by_cases c48 : x108_40 = true
                            · subst c48
                              have H1 : (some false) = some r := by rw [if_pos rfl] at H; exact H
                              clear H
                              have H := H1
                              clear H1
                              obtain rfl := Option.some.inj H
                              exact absurd hr_.out (by decide)
                            · replace c48 := Bool.eq_false_iff.mpr c48
                              subst c48
                              have H1 : ((natural_Text.f kj40 l0).bind fun bt333 => ((abacistref31_Good.f kj40 l0).bind fun t335 => (if t335 = true then ((natural_Good.f l0).bind fun t336 => (if t336 = true then (if bt333.2 = 0 then ((abacistref31_Read.f kj40 bt333.1).bind fun t337 => ((abacistref04_Same.f kj40 t337 l0).bind fun t340 => (some t340))) else (some false)) else (some false))) else ((natural_Good.f l0).bind fun t341 => (if t341 = true then (some false) else (if bt333.2 = 10 then (some (bt333.1.toList == ([] : List UInt8))) else (some false))))))) = some r := by rw [if_neg (show ¬ (false = true) by decide)] at H; exact H
                              clear H
                              have H := H1
                              clear H1
                              replace H := Option.bind_eq_some_iff.mp H
                              obtain ⟨⟨t333, t334⟩, A490, H⟩ := H
                              replace H : ((abacistref31_Good.f kj40 l0).bind fun t335 => (if t335 = true then ((natural_Good.f l0).bind fun t336 => (if t336 = true then (if t334 = 0 then ((abacistref31_Read.f kj40 t333).bind fun t337 => ((abacistref04_Same.f kj40 t337 l0).bind fun t340 => (some t340))) else (some false)) else (some false))) else ((natural_Good.f l0).bind fun t341 => (if t341 = true then (some false) else (if t334 = 10 then (some (t333.toList == ([] : List UInt8))) else (some false)))))) = some r := H
                              have A49 := Aside0.mk A490
                              clear A490
                              replace H := Option.bind_eq_some_iff.mp H
                              obtain ⟨t335, A500, H⟩ := H
                              replace H : (if t335 = true then ((natural_Good.f l0).bind fun t336 => (if t336 = true then (if t334 = 0 then ((abacistref31_Read.f kj40 t333).bind fun t337 => ((abacistref04_Same.f kj40 t337 l0).bind fun t340 => (some t340))) else (some false)) else (some false))) else ((natural_Good.f l0).bind fun t341 => (if t341 = true then (some false) else (if t334 = 10 then (some (t333.toList == ([] : List UInt8))) else (some false))))) = some r := H
                              have A50 := Aside0.mk A500
                              clear A500
                              by_cases c51 : t335 = true
                              · subst c51
                                have H1 : ((natural_Good.f l0).bind fun t336 => (if t336 = true then (if t334 = 0 then ((abacistref31_Read.f kj40 t333).bind fun t337 => ((abacistref04_Same.f kj40 t337 l0).bind fun t340 => (some t340))) else (some false)) else (some false))) = some r := by rw [if_pos rfl] at H; exact H
                                clear H
                                have H := H1
                                clear H1
                                replace H := Option.bind_eq_some_iff.mp H
                                obtain ⟨t336, A520, H⟩ := H
                                replace H : (if t336 = true then (if t334 = 0 then ((abacistref31_Read.f kj40 t333).bind fun t337 => ((abacistref04_Same.f kj40 t337 l0).bind fun t340 => (some t340))) else (some false)) else (some false)) = some r := H
                                have A52 := Aside0.mk A520
                                clear A520
                                by_cases c53 : t336 = true
                                · subst c53
                                  have H1 : (if t334 = 0 then ((abacistref31_Read.f kj40 t333).bind fun t337 => ((abacistref04_Same.f kj40 t337 l0).bind fun t340 => (some t340))) else (some false)) = some r := by rw [if_pos rfl] at H; exact H
                                  clear H
                                  have H := H1
                                  clear H1
                                  by_cases c54 : t334 = 0
                                  · rw [if_pos c54] at H
                                    have c54b0 : (t334 == 0) = true := beq_iff_eq.mpr c54
                                    have c54b1 : (t334 != 0) = false := bne_eq_false_iff_eq.mpr c54
                                    clear c54
                                    replace H := Option.bind_eq_some_iff.mp H
                                    obtain ⟨t337, A550, H⟩ := H
                                    replace H : ((abacistref04_Same.f kj40 t337 l0).bind fun t340 => (some t340)) = some r := H
                                    have A55 := Aside0.mk A550
                                    clear A550
                                    replace H := Option.bind_eq_some_iff.mp H
                                    obtain ⟨t340, A560, H⟩ := H
                                    replace H : (some t340) = some r := H
                                    have A56 := Aside0.mk A560
                                    clear A560
                                    obtain rfl := Option.some.inj H
                                    go_wp2_with (first | ((with_reducible refine gate_callee (f := 6) rfl ?_); refine goesL_ (some 111) rfl rfl Tryd.func6 (by kernel_rfl) rfl #[.slice A0 l0.length c0] rfl (by (try simp only [List.map_toArray, List.map_cons, List.map_nil]); first | done | rfl | (simp only [List.length_drop, List.length_take]; rfl)) ?_; (with_reducible refine (natural_Text.calls kj40 (fun k_ => k_ < w.heap.size) _ _ l0 t333 t334 _ ?side1 A49.out).mono ?_); (case side1 => exact Kd.V_mk HC0.out (Kd.F_below (Kd.C_F (Kd.heap_int .u64) HR0.out) (by repeat (first | (with_reducible first | exact HB.out | apply below_alloc | apply pw_below_drewN | apply below_drew1) | exact HB.out)))); rintro e w57 ⟨rfl, hb⟩; refine ⟨_, rfl, ?_⟩; have n0_ := Aside0.mk (below_step (by repeat (first | (with_reducible first | exact HB.out | apply below_alloc | apply pw_below_drewN | apply below_drew1) | exact HB.out)) hb); clear HB; have HB := n0_; clear n0_; (try clear hb); (try clear hb2); (try clear hk); (try clear hi)) | (go_at_call 6; (with_reducible refine (natural_Text.calls kj40 (fun k_ => k_ < w.heap.size) _ _ l0 t333 t334 _ ?side1 A49.out).mono ?_); (case side1 => exact Kd.V_mk HC0.out (Kd.F_below (Kd.C_F (Kd.heap_int .u64) HR0.out) (by repeat (first | (with_reducible first | exact HB.out | apply below_alloc | apply pw_below_drewN | apply below_drew1) | exact HB.out)))); rintro e w57 ⟨rfl, hb⟩; have n0_ := Aside0.mk (below_step (by repeat (first | (with_reducible first | exact HB.out | apply below_alloc | apply pw_below_drewN | apply below_drew1) | exact HB.out)) hb); clear HB; have HB := n0_; clear n0_; (try clear hb); (try clear hb2); (try clear hk); (try clear hi)) | ((with_reducible refine gate_callee (f := 11) rfl ?_); refine goesL_ (some 115) rfl rfl Tryd.func11 (by kernel_rfl) rfl #[.slice A0 l0.length c0] rfl (by (try simp only [List.map_toArray, List.map_cons, List.map_nil]); first | done | rfl | (simp only [List.length_drop, List.length_take]; rfl)) ?_; (with_reducible refine (abacistref31_Good.calls kj40 _ _ l0 true _ ?side1 ?side2 A50.out).mono ?_); (case side1 => repeat (first | exact (Kd.C_below HR0.out HB.out) | (with_reducible refine Kd.C_alloc ?_ _) | (with_reducible refine Kd.C_drewN ?_ _) | (with_reducible refine Kd.C_drew ?_))); (case side2 => exact HC0.out); rintro e w' ⟨rfl, ⟨nd, rfl⟩⟩; refine ⟨_, rfl, ?_⟩) | (go_at_call 11; (with_reducible refine (abacistref31_Good.calls kj40 _ _ l0 true _ ?side1 ?side2 A50.out).mono ?_); (case side1 => repeat (first | exact (Kd.C_below HR0.out HB.out) | (with_reducible refine Kd.C_alloc ?_ _) | (with_reducible refine Kd.C_drewN ?_ _) | (with_reducible refine Kd.C_drew ?_))); (case side2 => exact HC0.out); rintro e w' ⟨rfl, ⟨nd, rfl⟩⟩) | ((with_reducible refine gate_callee (f := 12) rfl ?_); refine goesL_ (some 129) rfl rfl Tryd.func12 (by kernel_rfl) rfl #[.slice A0 l0.length c0] rfl (by (try simp only [List.map_toArray, List.map_cons, List.map_nil]); first | done | rfl | (simp only [List.length_drop, List.length_take]; rfl)) ?_; (with_reducible refine (natural_Good.calls _ _ l0 true _ ?side1 ?side2 A52.out).mono ?_); (case side1 => repeat (first | exact (Kd.C_below HR0.out (by repeat (first | (with_reducible first | exact HB.out | apply below_alloc | apply pw_below_drewN | apply below_drew1) | exact HB.out))) | (with_reducible refine Kd.C_alloc ?_ _) | (with_reducible refine Kd.C_drewN ?_ _) | (with_reducible refine Kd.C_drew ?_))); (case side2 => exact HC0.out); rintro e w' ⟨rfl, ⟨nd, rfl⟩⟩; refine ⟨_, rfl, ?_⟩) | (go_at_call 12; (with_reducible refine (natural_Good.calls _ _ l0 true _ ?side1 ?side2 A52.out).mono ?_); (case side1 => repeat (first | exact (Kd.C_below HR0.out (by repeat (first | (with_reducible first | exact HB.out | apply below_alloc | apply pw_below_drewN | apply below_drew1) | exact HB.out))) | (with_reducible refine Kd.C_alloc ?_ _) | (with_reducible refine Kd.C_drewN ?_ _) | (with_reducible refine Kd.C_drew ?_))); (case side2 => exact HC0.out); rintro e w' ⟨rfl, ⟨nd, rfl⟩⟩) | (go_at_call 8; (with_reducible refine (abacistref31_Read.calls kj40 t333 t337 _ A55.out).mono ?_); rintro e w58 ⟨v338, rfl, ho0, hb⟩; have n0_ := Aside0.mk (Kd.R_lower ho0 (below_size (by repeat (first | (with_reducible first | exact HB.out | apply below_alloc | apply pw_below_drewN | apply below_drew1) | exact HB.out)))); have n1_ := Aside0.mk (below_step (by repeat (first | (with_reducible first | exact HB.out | apply below_alloc | apply pw_below_drewN | apply below_drew1) | exact HB.out)) hb); clear HB; have HO339 := n0_; have HB := n1_; clear n0_ n1_; (try clear hb); (try clear hb2); (try clear hk); (try clear hi); (try clear ho0); obtain ⟨Ao59, co59, eo59⟩ := Kd.R_slice HO339.out; subst eo59) | (go_at_call 7; (with_reducible refine (abacistref04_Same.calls kj40 _ _ t337 _ _ l0 t340 _ ?side1 ?side2 ?side3 ?side4 A56.out).mono ?_); (case side1 => repeat (first | exact (Kd.R_reads' HO339.out).2.2 | (with_reducible refine Kd.C_alloc ?_ _) | (with_reducible refine Kd.C_drewN ?_ _) | (with_reducible refine Kd.C_drew ?_))); (case side2 => exact (Kd.R_reads' HO339.out).2.1); (case side3 => repeat (first | exact (Kd.C_below HR0.out HB.out) | (with_reducible refine Kd.C_alloc ?_ _) | (with_reducible refine Kd.C_drewN ?_ _) | (with_reducible refine Kd.C_drew ?_))); (case side4 => exact HC0.out); rintro e w' ⟨rfl, ⟨nd, rfl⟩⟩))
                                    go_ret
                                    exact ⟨by first | rfl | (simp [errW_none, errW_some] <;> rfl) | (simp [*, errW_none, errW_some] <;> rfl), by repeat (first | (with_reducible first | exact HB.out | apply below_alloc | apply pw_below_drewN | apply below_drew1) | exact HB.out)⟩
                                  · rw [if_neg c54] at H
                                    have c54b0 : (t334 == 0) = false := beq_eq_false_iff_ne.mpr c54
                                    have c54b1 : (t334 != 0) = true := bne_iff_ne.mpr c54
                                    obtain rfl := Option.some.inj H
                                    exact absurd hr_.out (by decide)
                                · replace c53 := Bool.eq_false_iff.mpr c53
                                  subst c53
                                  have H1 : (some false) = some r := by rw [if_neg (show ¬ (false = true) by decide)] at H; exact H
                                  clear H
                                  have H := H1
                                  clear H1
                                  obtain rfl := Option.some.inj H
                                  exact absurd hr_.out (by decide)
                              · replace c51 := Bool.eq_false_iff.mpr c51
                                subst c51
                                have H1 : ((natural_Good.f l0).bind fun t341 => (if t341 = true then (some false) else (if t334 = 10 then (some (t333.toList == ([] : List UInt8))) else (some false)))) = some r := by rw [if_neg (show ¬ (false = true) by decide)] at H; exact H
                                clear H
                                have H := H1
                                clear H1
                                replace H := Option.bind_eq_some_iff.mp H
                                obtain ⟨t341, A600, H⟩ := H
                                replace H : (if t341 = true then (some false) else (if t334 = 10 then (some (t333.toList == ([] : List UInt8))) else (some false))) = some r := H
                                have A60 := Aside0.mk A600
                                clear A600
                                by_cases c61 : t341 = true
                                · subst c61
                                  have H1 : (some false) = some r := by rw [if_pos rfl] at H; exact H
                                  clear H
                                  have H := H1
                                  clear H1
                                  obtain rfl := Option.some.inj H
                                  exact absurd hr_.out (by decide)
                                · replace c61 := Bool.eq_false_iff.mpr c61
                                  subst c61
                                  have H1 : (if t334 = 10 then (some (t333.toList == ([] : List UInt8))) else (some false)) = some r := by rw [if_neg (show ¬ (false = true) by decide)] at H; exact H
                                  clear H
                                  have H := H1
                                  clear H1
                                  by_cases c62 : t334 = 10
                                  · rw [if_pos c62] at H
                                    have c62b0 : (t334 == 10) = true := beq_iff_eq.mpr c62
                                    have c62b1 : (t334 != 10) = false := bne_eq_false_iff_eq.mpr c62
                                    clear c62
                                    obtain rfl := Option.some.inj H
                                    go_wp2_with (first | ((with_reducible refine gate_callee (f := 6) rfl ?_); refine goesL_ (some 111) rfl rfl Tryd.func6 (by kernel_rfl) rfl #[.slice A0 l0.length c0] rfl (by (try simp only [List.map_toArray, List.map_cons, List.map_nil]); first | done | rfl | (simp only [List.length_drop, List.length_take]; rfl)) ?_; (with_reducible refine (natural_Text.calls kj40 (fun k_ => k_ < w.heap.size) _ _ l0 t333 t334 _ ?side1 A49.out).mono ?_); (case side1 => exact Kd.V_mk HC0.out (Kd.F_below (Kd.C_F (Kd.heap_int .u64) HR0.out) (by repeat (first | (with_reducible first | exact HB.out | apply below_alloc | apply pw_below_drewN | apply below_drew1) | exact HB.out)))); rintro e w63 ⟨rfl, hb⟩; refine ⟨_, rfl, ?_⟩; have n0_ := Aside0.mk (below_step (by repeat (first | (with_reducible first | exact HB.out | apply below_alloc | apply pw_below_drewN | apply below_drew1) | exact HB.out)) hb); clear HB; have HB := n0_; clear n0_; (try clear hb); (try clear hb2); (try clear hk); (try clear hi)) | (go_at_call 6; (with_reducible refine (natural_Text.calls kj40 (fun k_ => k_ < w.heap.size) _ _ l0 t333 t334 _ ?side1 A49.out).mono ?_); (case side1 => exact Kd.V_mk HC0.out (Kd.F_below (Kd.C_F (Kd.heap_int .u64) HR0.out) (by repeat (first | (with_reducible first | exact HB.out | apply below_alloc | apply pw_below_drewN | apply below_drew1) | exact HB.out)))); rintro e w63 ⟨rfl, hb⟩; have n0_ := Aside0.mk (below_step (by repeat (first | (with_reducible first | exact HB.out | apply below_alloc | apply pw_below_drewN | apply below_drew1) | exact HB.out)) hb); clear HB; have HB := n0_; clear n0_; (try clear hb); (try clear hb2); (try clear hk); (try clear hi)) | ((with_reducible refine gate_callee (f := 11) rfl ?_); refine goesL_ (some 115) rfl rfl Tryd.func11 (by kernel_rfl) rfl #[.slice A0 l0.length c0] rfl (by (try simp only [List.map_toArray, List.map_cons, List.map_nil]); first | done | rfl | (simp only [List.length_drop, List.length_take]; rfl)) ?_; (with_reducible refine (abacistref31_Good.calls kj40 _ _ l0 false _ ?side1 ?side2 A50.out).mono ?_); (case side1 => repeat (first | exact (Kd.C_below HR0.out HB.out) | (with_reducible refine Kd.C_alloc ?_ _) | (with_reducible refine Kd.C_drewN ?_ _) | (with_reducible refine Kd.C_drew ?_))); (case side2 => exact HC0.out); rintro e w' ⟨rfl, ⟨nd, rfl⟩⟩; refine ⟨_, rfl, ?_⟩) | (go_at_call 11; (with_reducible refine (abacistref31_Good.calls kj40 _ _ l0 false _ ?side1 ?side2 A50.out).mono ?_); (case side1 => repeat (first | exact (Kd.C_below HR0.out HB.out) | (with_reducible refine Kd.C_alloc ?_ _) | (with_reducible refine Kd.C_drewN ?_ _) | (with_reducible refine Kd.C_drew ?_))); (case side2 => exact HC0.out); rintro e w' ⟨rfl, ⟨nd, rfl⟩⟩) | ((with_reducible refine gate_callee (f := 12) rfl ?_); refine goesL_ (some 118) rfl rfl Tryd.func12 (by kernel_rfl) rfl #[.slice A0 l0.length c0] rfl (by (try simp only [List.map_toArray, List.map_cons, List.map_nil]); first | done | rfl | (simp only [List.length_drop, List.length_take]; rfl)) ?_; (with_reducible refine (natural_Good.calls _ _ l0 false _ ?side1 ?side2 A60.out).mono ?_); (case side1 => repeat (first | exact (Kd.C_below HR0.out (by repeat (first | (with_reducible first | exact HB.out | apply below_alloc | apply pw_below_drewN | apply below_drew1) | exact HB.out))) | (with_reducible refine Kd.C_alloc ?_ _) | (with_reducible refine Kd.C_drewN ?_ _) | (with_reducible refine Kd.C_drew ?_))); (case side2 => exact HC0.out); rintro e w' ⟨rfl, ⟨nd, rfl⟩⟩; refine ⟨_, rfl, ?_⟩) | (go_at_call 12; (with_reducible refine (natural_Good.calls _ _ l0 false _ ?side1 ?side2 A60.out).mono ?_); (case side1 => repeat (first | exact (Kd.C_below HR0.out (by repeat (first | (with_reducible first | exact HB.out | apply below_alloc | apply pw_below_drewN | apply below_drew1) | exact HB.out))) | (with_reducible refine Kd.C_alloc ?_ _) | (with_reducible refine Kd.C_drewN ?_ _) | (with_reducible refine Kd.C_drew ?_))); (case side2 => exact HC0.out); rintro e w' ⟨rfl, ⟨nd, rfl⟩⟩))
                                    go_ret
                                    exact ⟨by first | rfl | (simp [errW_none, errW_some] <;> rfl) | (simp [*, errW_none, errW_some] <;> rfl), by repeat (first | (with_reducible first | exact HB.out | apply below_alloc | apply pw_below_drewN | apply below_drew1) | exact HB.out)⟩
                                  · rw [if_neg c62] at H
                                    have c62b0 : (t334 == 10) = false := beq_eq_false_iff_ne.mpr c62
                                    have c62b1 : (t334 != 10) = true := bne_iff_ne.mpr c62
                                    obtain rfl := Option.some.inj H
                                    exact absurd hr_.out (by decide)
  · replace c5 := Bool.eq_false_iff.mpr c5
    subst c5
    have H1 : (some false) = some r := by rw [if_neg (show ¬ (false = true) by decide)] at H; exact H
    clear H
    have H := H1
    clear H1
    obtain rfl := Option.some.inj H
    exact absurd hr_.out (by decide)

/-- THE ONE PURE STATEMENT of abacistlaw31_NaturalTexts: yours. -/
def abacistlaw31_NaturalTexts.Pure : Prop := ∀ (l0 : List Int) (a1 : ByteArray) (a2 : Int), l0.length ≤ maxLen → l0.length * 8 ≤ 140737488351232 → (∀ x ∈ l0, (Lit.int .u64 x).wf = true) → a1.size ≤ 140737488351232 → (Lit.int .u64 a2).wf = true → ∃ k, abacistlaw31_NaturalTexts.f k l0 a1 a2 = some true
theorem abacistlaw31_NaturalTexts.walk (P : abacistlaw31_NaturalTexts.Pure) (a0 : Option Addr) (len0 cap0 : Nat) (z0 : List Int) (a1 : ByteArray) (a2 : Int) (w : World) (w0 : (a0 = none ∧ len0 = 0 ∧ cap0 = 0 ∧ z0 = []) ∨ ∃ x, a0 = some x ∧ len0 ≤ cap0 ∧ cap0 ≤ maxLen ∧ z0.length = cap0 ∧ (∀ i, i < z0.length → w.cell? (x.add i) = some (.int .u64 (z0.getD i 0))) ∧ ∀ n ∈ z0, (Lit.int .u64 n).wf = true) (y0 : len0 * 8 ≤ 140737488351232) (w1 : a1.size ≤ 140737488351232) (w2 : (Lit.int .u64 a2).wf = true) :
    Calls Tryd.prog 3 #[.slice a0 len0 cap0, .string a1, .int .u64 a2] w fun e w' => e = .returned (.bool true) ∧ Below w.heap.size w w' := by
  obtain ⟨l0, rfl, hr0, hm0, hw0, hc0⟩ := ReadsInt.ofRowC w0
  obtain ⟨k, h⟩ := P l0 a1 a2 hm0 y0 hw0 w1 w2
  refine (abacistlaw31_NaturalTexts.calls k _ _ l0 a1 a2 true ⟨rfl⟩ w (Kd.C_of_reads (d := (0 : Int)) (h1 := fun _ => rfl) hr0) hc0 h).mono ?_
  rintro e w' ⟨rfl, hd⟩
  exact ⟨rfl, hd⟩

end Go.Proofs.YtaiahgnkgbfcfaaDoor.PNaturalTexts
