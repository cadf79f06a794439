-- Written for this claim by wip/gen/mk.sh, this session's own driver over the kit's print
import Derived.Test.YtaiahgnkgbfcfaaPNaturalDividesx0
import Derived.Test.YtaiahgnkgbfcfaaPNaturalDividesx1
import Derived.Test.YtaiahgnkgbfcfaaPNaturalDividesx7
import Derived.Test.YtaiahgnkgbfcfaaPNaturalDividesx9
namespace Go.Proofs.Ytaiahgnkgbfcfaa.PNaturalDivides
open Go.RowKit Go.Proofs.YtaiahgnkgbfcfaaW.PrintWords Go.Proofs.YtaiahgnkgbfcfaaW.PrintLast Go.Proofs.YtaiahgnkgbfcfaaW.PrintMore
attribute [local go_sem] max2_int min2_int max_two min_two max_three min_three max_four min_four   -- for this text's walks alone
set_option linter.unusedVariables false
set_option linter.unusedSimpArgs false

/-! ### natural_compare: function 61 -/
def natural_compare.l0 : Nat → List Int → List Int → Int → Option (Int)
  | 0, _, _, _ => none
  | k + 1, x0, x1, x6 => if x6 ≥ 0 then (if 0 ≤ x6 then (if x6 < (x0.length : Int) then (if x6 < (x1.length : Int) then ((cmp_Compare_uint64.f (rd x0 x6) (rd x1 x6)).bind fun t342 => (if t342 = 0 then (natural_compare.l0 k x0 x1 (wrap64 (x6 - 1))) else (some t342))) else (none)) else (none)) else (none)) else (some 0)
def natural_compare.f (k : Nat) (l0 : List Int) (l1 : List Int) : Option (Int) := (cmp_Compare_int.f (l0.length : Int) (l1.length : Int)).bind fun t339 => (if t339 = 0 then (natural_compare.l0 k l0 l1 (wrap64 ((l0.length : Int) - 1))) else (some t339))
theorem natural_compare.mono_l : ∀ k, (∀ y0 y1 y2, LeO (natural_compare.l0 k y0 y1 y2) (natural_compare.l0 (k + 1) y0 y1 y2))
  | 0 => fun _ _ _ r h => by simp [natural_compare.l0] at h
  | k + 1 => by
    have ih0 := natural_compare.mono_l k
    · intro y0 y1 y2
      unfold natural_compare.l0
      repeat' first
      | (with_reducible exact ih0 _ _ _)
      | (with_reducible exact LeO.refl _)
      | (with_reducible exact LeO.none _)
      | (with_reducible refine LeO.ite ?_ ?_)
      | (with_reducible refine LeO.bind ?_ (fun _ => ?_))
      | exact ih0 _ _ _
      | exact LeO.none _
      | refine LeO.ite ?_ ?_
      | refine LeO.bind ?_ (fun _ => ?_)
theorem natural_compare.mono : ∀ a0 a1 k, LeO (natural_compare.f k a0 a1) (natural_compare.f (k + 1) a0 a1) := by
  intro a0 a1 k
  have ih0 := natural_compare.mono_l k
  unfold natural_compare.f
  repeat' first
      | (with_reducible exact ih0 _ _ _)
      | (with_reducible exact LeO.refl _)
      | (with_reducible exact LeO.none _)
      | (with_reducible refine LeO.ite ?_ ?_)
      | (with_reducible refine LeO.bind ?_ (fun _ => ?_))
      | exact ih0 _ _ _
      | exact LeO.none _
      | refine LeO.ite ?_ ?_
      | refine LeO.bind ?_ (fun _ => ?_)
set_option maxHeartbeats 8000000 in
set_option maxRecDepth 100000 in
theorem natural_compare.calls (k : Nat) (A0 : Option Addr) (c0 : Nat) (l0 : List Int) (A1 : Option Addr) (c1 : Nat) (l1 : List Int) (r : Int) (w : World) (hr0 : Kd.C (Kd.int .u64) w A0 l0.length l0) (hc0 : l0.length ≤ c0) (hr1 : Kd.C (Kd.int .u64) w A1 l1.length l1) (hc1 : l1.length ≤ c1) (h : natural_compare.f k l0 l1 = some r) :
    Calls Try.prog 61 #[.slice A0 l0.length c0, .slice A1 l1.length c1] w fun e w' => e = .returned (.int .i64 r) ∧ Drawn0 w w' := by
  have HR0 := Aside0.mk hr0
  have HC0 := Aside0.mk hc0
  clear hr0 hc0
  have HR1 := Aside0.mk hr1
  have HC1 := Aside0.mk hc1
  clear hr1 hc1
  have H : ((cmp_Compare_int.f (l0.length : Int) (l1.length : Int)).bind fun t339 => (if t339 = 0 then (natural_compare.l0 k l0 l1 (wrap64 ((l0.length : Int) - 1))) else (some t339))) = some r := h
  clear h
  replace H := Option.bind_eq_some_iff.mp H
  obtain ⟨t339, A30, H⟩ := H
  replace H : (if t339 = 0 then (natural_compare.l0 k l0 l1 (wrap64 ((l0.length : Int) - 1))) else (some t339)) = some r := H
  have A3 := Aside0.mk A30
  clear A30
  by_cases c4 : t339 = 0
  · rw [if_pos c4] at H
    have c4b0 : (t339 == 0) = true := beq_iff_eq.mpr c4
    have c4b1 : (t339 != 0) = false := bne_eq_false_iff_eq.mpr c4
    clear c4
    have H' := Aside0.mk H
    clear H
    go_enter Try.func61, Try.ntmps61
    go_wp2_with (first | (go_at_call 82; (with_reducible refine (cmp_Compare_int.calls (l0.length : Int) (l1.length : Int) t339 _ A3.out).mono ?_); rintro e w' ⟨rfl, ⟨nd, rfl⟩⟩; (try first | exact ⟨rfl, _, World.drewN_drewN _ _ _⟩ | exact ⟨rfl, _, Eq.trans (World.drewN_drewN _ _ _) (congrArg (World.drewN _) (Nat.add_assoc _ _ _))⟩)))
    repeat (go_quiet (first | (go_at_call 82; (with_reducible refine (cmp_Compare_int.calls (l0.length : Int) (l1.length : Int) t339 _ A3.out).mono ?_); rintro e w' ⟨rfl, ⟨nd, rfl⟩⟩; (try first | exact ⟨rfl, _, World.drewN_drewN _ _ _⟩ | exact ⟨rfl, _, Eq.trans (World.drewN_drewN _ _ _) (congrArg (World.drewN _) (Nat.add_assoc _ _ _))⟩))); try go_wp2_with (first | (go_at_call 82; (with_reducible refine (cmp_Compare_int.calls (l0.length : Int) (l1.length : Int) t339 _ A3.out).mono ?_); rintro e w' ⟨rfl, ⟨nd, rfl⟩⟩; (try first | exact ⟨rfl, _, World.drewN_drewN _ _ _⟩ | exact ⟨rfl, _, Eq.trans (World.drewN_drewN _ _ _) (congrArg (World.drewN _) (Nat.add_assoc _ _ _))⟩))))
    go_loopg [6] k (fun kq v6 w' => ∃ (x6_1 : Int), v6 = .int .i64 x6_1 ∧ Aside0 (natural_compare.l0 kq l0 l1 x6_1 = some r) ∧ Aside0 (kq ≤ k) ∧ Drawn0 w w')
    case atStart => exact ⟨(wrap64 ((l0.length : Int) - 1)), (by first | rfl | (simp; done) | (simp [*]; done)), H', ⟨Nat.le_refl _⟩, by repeat (first | exact Drawn0.refl _ | apply Drawn0.step)⟩
    case round =>
      clear H'
      try clear c1
      try clear p2
      try clear c4
      try clear c4b0
      try clear c4b1
      obtain ⟨x6_1, rfl, HA, HK1, ⟨m1, rfl⟩⟩ := hrel
      cases gk with
      | zero => exact absurd HA.out (by simp [natural_compare.l0])
      | succ k1 =>
        have H := HA.out
        clear HA
        simp only [natural_compare.l0] at H
        by_cases c5 : x6_1 ≥ 0
        · rw [if_pos c5] at H
          have c5b0 : decide (0 ≤ x6_1) = true := decide_eq_true c5
          clear c5
          by_cases c6 : 0 ≤ x6_1
          · rw [if_pos c6] at H
            have c6b0 : decide (0 ≤ x6_1) = true := decide_eq_true c6
            clear c6
            by_cases c7 : x6_1 < (l0.length : Int)
            · rw [if_pos c7] at H
              have c7b0 : decide (x6_1 < (l0.length : Int)) = true := decide_eq_true c7
              clear c7
              by_cases c8 : x6_1 < (l1.length : Int)
              · rw [if_pos c8] at H
                have c8b0 : decide (x6_1 < (l1.length : Int)) = true := decide_eq_true c8
                clear c8
                replace H := Option.bind_eq_some_iff.mp H
                obtain ⟨t342, A90, H⟩ := H
                replace H : (if t342 = 0 then (natural_compare.l0 k1 l0 l1 (wrap64 (x6_1 - 1))) else (some t342)) = some r := H
                have A9 := Aside0.mk A90
                clear A90
                by_cases c10 : t342 = 0
                · rw [if_pos c10] at H
                  have c10b0 : (t342 == 0) = true := beq_iff_eq.mpr c10
                  have c10b1 : (t342 != 0) = false := bne_eq_false_iff_eq.mpr c10
                  clear c10
                  have H' := Aside0.mk H
                  clear H
                  have p340 : 0 ≤ (x6_1 : Int) := of_decide_eq_true (by first | (with_reducible assumption) | assumption)
                  have q340 : x6_1 < (l0.length : Int) := of_decide_eq_true (by first | (with_reducible assumption) | assumption)
                  obtain ⟨ad340, e340, hx340_0⟩ := Kd.at_int HR0.out x6_1 p340 q340
                  cases e340
                  replace p340 := eq_true p340
                  replace q340 := eq_true q340
                  have p341 : 0 ≤ (x6_1 : Int) := of_decide_eq_true (by first | (with_reducible assumption) | assumption)
                  have q341 : x6_1 < (l1.length : Int) := of_decide_eq_true (by first | (with_reducible assumption) | assumption)
                  obtain ⟨ad341, e341, hx341_0⟩ := Kd.at_int HR1.out x6_1 p341 q341
                  cases e341
                  replace p341 := eq_true p341
                  replace q341 := eq_true q341
                  go_wp2_with (first | (go_at_call 83; (with_reducible refine (cmp_Compare_uint64.calls (rd l0 x6_1) (rd l1 x6_1) t342 _ A9.out).mono ?_); rintro e w' ⟨rfl, ⟨nd, rfl⟩⟩; (try first | exact ⟨rfl, _, World.drewN_drewN _ _ _⟩ | exact ⟨rfl, _, Eq.trans (World.drewN_drewN _ _ _) (congrArg (World.drewN _) (Nat.add_assoc _ _ _))⟩)))
                  repeat (go_quiet (first | (go_at_call 83; (with_reducible refine (cmp_Compare_uint64.calls (rd l0 x6_1) (rd l1 x6_1) t342 _ A9.out).mono ?_); rintro e w' ⟨rfl, ⟨nd, rfl⟩⟩; (try first | exact ⟨rfl, _, World.drewN_drewN _ _ _⟩ | exact ⟨rfl, _, Eq.trans (World.drewN_drewN _ _ _) (congrArg (World.drewN _) (Nat.add_assoc _ _ _))⟩))); try go_wp2_with (first | (go_at_call 83; (with_reducible refine (cmp_Compare_uint64.calls (rd l0 x6_1) (rd l1 x6_1) t342 _ A9.out).mono ?_); rintro e w' ⟨rfl, ⟨nd, rfl⟩⟩; (try first | exact ⟨rfl, _, World.drewN_drewN _ _ _⟩ | exact ⟨rfl, _, Eq.trans (World.drewN_drewN _ _ _) (congrArg (World.drewN _) (Nat.add_assoc _ _ _))⟩))))
                  (first | go_roundg k1 | (simp only [add_plain] at *; go_roundg k1))
                  case measure => have := HK1.out; omega
                  case rel => exact ⟨(wrap64 (x6_1 - 1)), (by first | rfl | (simp; done) | (simp [*]; done)), H', ⟨by have := HK1.out; omega⟩, by repeat (first | exact Drawn0.refl _ | apply Drawn0.step)⟩
                · rw [if_neg c10] at H
                  have c10b0 : (t342 == 0) = false := beq_eq_false_iff_ne.mpr c10
                  have c10b1 : (t342 != 0) = true := bne_iff_ne.mpr c10
                  obtain rfl := Option.some.inj H
                  have p340 : 0 ≤ (x6_1 : Int) := of_decide_eq_true (by first | (with_reducible assumption) | assumption)
                  have q340 : x6_1 < (l0.length : Int) := of_decide_eq_true (by first | (with_reducible assumption) | assumption)
                  obtain ⟨ad340, e340, hx340_0⟩ := Kd.at_int HR0.out x6_1 p340 q340
                  cases e340
                  replace p340 := eq_true p340
                  replace q340 := eq_true q340
                  have p341 : 0 ≤ (x6_1 : Int) := of_decide_eq_true (by first | (with_reducible assumption) | assumption)
                  have q341 : x6_1 < (l1.length : Int) := of_decide_eq_true (by first | (with_reducible assumption) | assumption)
                  obtain ⟨ad341, e341, hx341_0⟩ := Kd.at_int HR1.out x6_1 p341 q341
                  cases e341
                  replace p341 := eq_true p341
                  replace q341 := eq_true q341
                  go_wp2_with (first | (go_at_call 83; (with_reducible refine (cmp_Compare_uint64.calls (rd l0 x6_1) (rd l1 x6_1) t342 _ A9.out).mono ?_); rintro e w' ⟨rfl, ⟨nd, rfl⟩⟩; (try first | exact ⟨rfl, _, World.drewN_drewN _ _ _⟩ | exact ⟨rfl, _, Eq.trans (World.drewN_drewN _ _ _) (congrArg (World.drewN _) (Nat.add_assoc _ _ _))⟩)))
                  repeat (go_quiet (first | (go_at_call 83; (with_reducible refine (cmp_Compare_uint64.calls (rd l0 x6_1) (rd l1 x6_1) t342 _ A9.out).mono ?_); rintro e w' ⟨rfl, ⟨nd, rfl⟩⟩; (try first | exact ⟨rfl, _, World.drewN_drewN _ _ _⟩ | exact ⟨rfl, _, Eq.trans (World.drewN_drewN _ _ _) (congrArg (World.drewN _) (Nat.add_assoc _ _ _))⟩))); try go_wp2_with (first | (go_at_call 83; (with_reducible refine (cmp_Compare_uint64.calls (rd l0 x6_1) (rd l1 x6_1) t342 _ A9.out).mono ?_); rintro e w' ⟨rfl, ⟨nd, rfl⟩⟩; (try first | exact ⟨rfl, _, World.drewN_drewN _ _ _⟩ | exact ⟨rfl, _, Eq.trans (World.drewN_drewN _ _ _) (congrArg (World.drewN _) (Nat.add_assoc _ _ _))⟩))))
                  go_ret
                  exact ⟨by first | rfl | (simp; done) | (simp [*]; done), by repeat (first | exact Drawn0.refl _ | apply Drawn0.step)⟩
              · rw [if_neg c8] at H
                exact absurd H (by simp)
            · rw [if_neg c7] at H
              exact absurd H (by simp)
          · rw [if_neg c6] at H
            exact absurd H (by simp)
        · rw [if_neg c5] at H
          have c5b0 : decide (0 ≤ x6_1) = false := decide_eq_false c5
          clear c5
          obtain rfl := Option.some.inj H
          go_wp2
          repeat (go_quiet (fail); try go_wp2)
          go_ret
          exact ⟨by first | rfl | (simp; done) | (simp [*]; done), by repeat (first | exact Drawn0.refl _ | apply Drawn0.step)⟩
  · rw [if_neg c4] at H
    have c4b0 : (t339 == 0) = false := beq_eq_false_iff_ne.mpr c4
    have c4b1 : (t339 != 0) = true := bne_iff_ne.mpr c4
    obtain rfl := Option.some.inj H
    go_enter Try.func61, Try.ntmps61
    go_wp2_with (first | (go_at_call 82; (with_reducible refine (cmp_Compare_int.calls (l0.length : Int) (l1.length : Int) t339 _ A3.out).mono ?_); rintro e w' ⟨rfl, ⟨nd, rfl⟩⟩; (try first | exact ⟨rfl, _, World.drewN_drewN _ _ _⟩ | exact ⟨rfl, _, Eq.trans (World.drewN_drewN _ _ _) (congrArg (World.drewN _) (Nat.add_assoc _ _ _))⟩)))
    repeat (go_quiet (first | (go_at_call 82; (with_reducible refine (cmp_Compare_int.calls (l0.length : Int) (l1.length : Int) t339 _ A3.out).mono ?_); rintro e w' ⟨rfl, ⟨nd, rfl⟩⟩; (try first | exact ⟨rfl, _, World.drewN_drewN _ _ _⟩ | exact ⟨rfl, _, Eq.trans (World.drewN_drewN _ _ _) (congrArg (World.drewN _) (Nat.add_assoc _ _ _))⟩))); try go_wp2_with (first | (go_at_call 82; (with_reducible refine (cmp_Compare_int.calls (l0.length : Int) (l1.length : Int) t339 _ A3.out).mono ?_); rintro e w' ⟨rfl, ⟨nd, rfl⟩⟩; (try first | exact ⟨rfl, _, World.drewN_drewN _ _ _⟩ | exact ⟨rfl, _, Eq.trans (World.drewN_drewN _ _ _) (congrArg (World.drewN _) (Nat.add_assoc _ _ _))⟩))))
    go_ret
    exact ⟨by first | rfl | (simp; done) | (simp [*]; done), by repeat (first | exact Drawn0.refl _ | apply Drawn0.step)⟩

/-! ### natural_sub: function 62 -/
def natural_sub.l0 : Nat → List Int → List Int → Int → List Int → Int → Int → Option (List Int)
  | 0, _, _, _, _, _, _ => none
  | k + 1, x1, x5, x6, x12, x13, x14 => if x14 < x13 then (if 0 ≤ x14 then (if x14 < (x12.length : Int) then (if x14 < (x1.length : Int) then (if x14 < (x5.length : Int) then (natural_sub.l0 k x1 (x5.set (x14 : Int).toNat (Int.tmod (IntKind.u64.wrap ((IntKind.u64.wrap ((rd x12 x14) - x6)) - (rd x1 x14))) 65536)) ((IntKind.u64.wrap ((IntKind.u64.wrap ((rd x12 x14) - x6)) - (rd x1 x14))) / 9223372036854775808) x12 x13 (wrap64 (x14 + 1))) else (none)) else (if x14 < (x5.length : Int) then (natural_sub.l0 k x1 (x5.set (x14 : Int).toNat (Int.tmod (IntKind.u64.wrap ((rd x12 x14) - x6)) 65536)) ((IntKind.u64.wrap ((rd x12 x14) - x6)) / 9223372036854775808) x12 x13 (wrap64 (x14 + 1))) else (none))) else (none)) else (none)) else ((natural_trim.f x5).bind fun t350 => (some t350))
def natural_sub.f (k : Nat) (l0 : List Int) (l1 : List Int) : Option (List Int) := if 0 ≤ (l0.length : Int) then (if ((l0.length : Int) : Int).toNat ≤ 35184372088832 then (natural_sub.l0 k l1 (List.replicate ((l0.length : Int) : Int).toNat 0) 0 l0 (l0.length : Int) 0) else (none)) else (none)
theorem natural_sub.mono_l : ∀ k, (∀ y0 y1 y2 y3 y4 y5, LeO (natural_sub.l0 k y0 y1 y2 y3 y4 y5) (natural_sub.l0 (k + 1) y0 y1 y2 y3 y4 y5))
  | 0 => fun _ _ _ _ _ _ r h => by simp [natural_sub.l0] at h
  | k + 1 => by
    have ih0 := natural_sub.mono_l k
    · intro y0 y1 y2 y3 y4 y5
      unfold natural_sub.l0
      repeat' first
      | (with_reducible exact ih0 _ _ _ _ _ _)
      | (with_reducible exact LeO.refl _)
      | (with_reducible exact LeO.none _)
      | (with_reducible refine LeO.ite ?_ ?_)
      | (with_reducible refine LeO.bind ?_ (fun _ => ?_))
      | exact ih0 _ _ _ _ _ _
      | exact LeO.none _
      | refine LeO.ite ?_ ?_
      | refine LeO.bind ?_ (fun _ => ?_)
theorem natural_sub.mono : ∀ a0 a1 k, LeO (natural_sub.f k a0 a1) (natural_sub.f (k + 1) a0 a1) := by
  intro a0 a1 k
  have ih0 := natural_sub.mono_l k
  unfold natural_sub.f
  repeat' first
      | (with_reducible exact ih0 _ _ _ _ _ _)
      | (with_reducible exact LeO.refl _)
      | (with_reducible exact LeO.none _)
      | (with_reducible refine LeO.ite ?_ ?_)
      | (with_reducible refine LeO.bind ?_ (fun _ => ?_))
      | exact ih0 _ _ _ _ _ _
      | exact LeO.none _
      | refine LeO.ite ?_ ?_
      | refine LeO.bind ?_ (fun _ => ?_)
set_option maxHeartbeats 8000000 in
set_option maxRecDepth 100000 in
theorem natural_sub.calls (k : Nat) (A0 : Option Addr) (c0 : Nat) (l0 : List Int) (A1 : Option Addr) (c1 : Nat) (l1 : List Int) (r : List Int) (w : World) (hr0 : Kd.C (Kd.int .u64) w A0 l0.length l0) (hc0 : l0.length ≤ c0) (hr1 : Kd.C (Kd.int .u64) w A1 l1.length l1) (hc1 : l1.length ≤ c1) (h : natural_sub.f k l0 l1 = some r) :
    Calls Try.prog 62 #[.slice A0 l0.length c0, .slice A1 l1.length c1] w fun e w' => ∃ v0_ : Value, e = .returned (v0_) ∧ Kd.V (Kd.int .u64) 29 w' w.heap.size (fun k_ => (w.heap.size ≤ k_)) v0_ r ∧ Below w.heap.size w w' := by
  have HR0 := Aside0.mk hr0
  have HC0 := Aside0.mk hc0
  clear hr0 hc0
  have HR1 := Aside0.mk hr1
  have HC1 := Aside0.mk hc1
  clear hr1 hc1
  have HB := Aside0.mk (Below.refl w.heap.size w)
  have H : (if 0 ≤ (l0.length : Int) then (if ((l0.length : Int) : Int).toNat ≤ 35184372088832 then (natural_sub.l0 k l1 (List.replicate ((l0.length : Int) : Int).toNat 0) 0 l0 (l0.length : Int) 0) else (none)) else (none)) = some r := h
  clear h
  by_cases c3 : 0 ≤ (l0.length : Int)
  · rw [if_pos c3] at H
    have c3b0 := eq_true c3
    have LTc3 := Aside0.mk (show (((l0.take (0 : Int).toNat).length : Int) = max 0 0) by rw [List.length_take]; omega)
    (try (have LDc3 := Aside0.mk (show ∀ lo_ : Nat, (((l0.take (0 : Int).toNat).drop lo_).length : Int) = (((0 : Int).toNat - lo_ : Nat) : Int) from fun lo_ => by rw [List.length_drop, List.length_take]; omega)))
    have c3b1 : decide (0 ≤ (l0.length : Int)) = true := decide_eq_true c3
    clear c3
    by_cases c4 : ((l0.length : Int) : Int).toNat ≤ 35184372088832
    · rw [if_pos c4] at H
      have c4b0 := eq_true c4
      have c4b1 : decide (((l0.length : Int) : Int).toNat ≤ 35184372088832) = true := decide_eq_true c4
      clear c4
      obtain ⟨y343, hy343⟩ : ∃ y_ : List Int, y_ = (List.replicate ((l0.length : Int) : Int).toNat 0) := ⟨_, rfl⟩
      replace H : (natural_sub.l0 k l1 y343 0 l0 (l0.length : Int) 0) = some r := by first | (rw [hy343]; with_reducible exact H) | (have H2_ := (Option.bind_some _ _).symm.trans H; rw [hy343]; with_reducible exact H2_) | (have H2_ := (Option.bind_some _ _).symm.trans H; with_reducible exact H2_) | with_reducible exact H | (rw [hy343]; exact H) | exact H
      have Ny343 := Aside0.mk hy343
      clear hy343
      have H' := Aside0.mk H
      clear H
      go_enter Try.func62, Try.ntmps62
      go_wp2_with (first | ((with_reducible refine gate_dst (N := 11) rfl ?_); refine Kd.R_make (Kd.int .u64) _ 29 rfl (N := 11) rfl 22 _ _ rfl (l0.length : Int) rfl rfl Try.underlying22 (.int .u64 0) 8 info29 rfl (by decide) (by omega) 0 (ok := fun _ => True) (okp := fun _ => True) rfl (fun _ hk => hk) trivial (of_decide_eq_true (by first | (with_reducible assumption) | assumption)) (Nat.le_trans (Nat.mul_le_mul_right _ (of_decide_eq_true (by first | (with_reducible assumption) | assumption) : (l0.length : Int).toNat ≤ 35184372088832)) (by omega)) (Below.refl _ _) (Nat.le_refl _) ?_; intro v344 w5 ho6 hb hg_ hnew_; clear hg_ hnew_; (first | rw [← Ny343.out] at ho6 | (simp only [Int.reduceToNat] at ho6; rw [← Ny343.out] at ho6)); have n0_ := Aside0.mk (Kd.R_lower (Kd.R_newM (M := fun k_ => (w.heap.size ≤ k_)) ho6 (below_size (by repeat (first | (with_reducible first | exact HB.out | apply below_alloc | apply pw_below_drewN | apply below_drew1) | exact HB.out))) (fun k_ h_ => h_)) (below_size (by repeat (first | (with_reducible first | exact HB.out | apply below_alloc | apply pw_below_drewN | apply below_drew1) | exact HB.out)))); have n1_ := Aside0.mk (below_step (by repeat (first | (with_reducible first | exact HB.out | apply below_alloc | apply pw_below_drewN | apply below_drew1) | exact HB.out)) hb); clear HB; have HO345 := n0_; have HB := n1_; clear n0_ n1_; clear hb ho6))
      go_loopg [6, 14] k (fun kq v6 v14 w' => ∃ (x5_1 : List Int) (x6_1 : Int) (x14_1 : Int), v6 = .int .u64 x6_1 ∧ v14 = .int .i64 x14_1 ∧ Aside0 (natural_sub.l0 kq l1 x5_1 x6_1 l0 (l0.length : Int) x14_1 = some r) ∧ Aside0 (kq ≤ k) ∧ Aside0 (Kd.R (Kd.int .u64) 29 w' w.heap.size (fun k_ => (w.heap.size ≤ k_)) v344 x5_1) ∧ Aside0 (Below w.heap.size w w'))
      case atStart => exact ⟨(y343), (0), (0), (by first | rfl | (simp; done) | (simp [*]; done)), (by first | rfl | (simp; done) | (simp [*]; done)), H', ⟨Nat.le_refl _⟩, ⟨by (with_reducible repeat (first | apply Kd.R_alloc | apply Kd.R_drewN | apply Kd.R_drew)); exact Kd.R_mono HO345.out (fun _ hk => hk.1)⟩, ⟨by repeat (first | (with_reducible first | exact HB.out | apply below_alloc | apply pw_below_drewN | apply below_drew1) | exact HB.out)⟩⟩
      case round =>
        clear H'
        try clear c1
        try clear p2
        try clear c3
        try clear c3b0
        try clear c3b1
        try clear c4
        try clear c4b0
        try clear c4b1
        try clear c6
        obtain ⟨x5_1, x6_1, x14_1, rfl, rfl, HA, HK1, HO_5, HB⟩ := hrel
        cases gk with
        | zero => exact absurd HA.out (by simp [natural_sub.l0])
        | succ k1 =>
          have H := HA.out
          clear HA
          simp only [natural_sub.l0] at H
          by_cases c7 : x14_1 < (l0.length : Int)
          · rw [if_pos c7] at H
            have c7b0 : decide (x14_1 < (l0.length : Int)) = true := decide_eq_true c7
            (try (have c7b0_0 := c7b0; rw [LTc3.out] at c7b0_0))
            (try (have c7b0_0p := eq_true (of_decide_eq_true c7b0_0)))
            (try (have c7b0_1 := c7b0; rw [LDc3.out] at c7b0_1))
            (try (have c7b0_1p := eq_true (of_decide_eq_true c7b0_1)))
            clear c7
            by_cases c8 : 0 ≤ x14_1
            · rw [if_pos c8] at H
              have c8b0 : decide (0 ≤ x14_1) = true := decide_eq_true c8
              clear c8
              by_cases c9 : x14_1 < (l0.length : Int)
              · rw [if_pos c9] at H
                have c9b0 : decide (x14_1 < (l0.length : Int)) = true := decide_eq_true c9
                (try (have c9b0_0 := c9b0; rw [LTc3.out] at c9b0_0))
                (try (have c9b0_0p := eq_true (of_decide_eq_true c9b0_0)))
                (try (have c9b0_1 := c9b0; rw [LDc3.out] at c9b0_1))
                (try (have c9b0_1p := eq_true (of_decide_eq_true c9b0_1)))
                clear c9
                by_cases c10 : x14_1 < (l1.length : Int)
                · rw [if_pos c10] at H
                  have c10b0 : decide (x14_1 < (l1.length : Int)) = true := decide_eq_true c10
                  (try (have c10b0_0 := c10b0; rw [LTc3.out] at c10b0_0))
                  (try (have c10b0_0p := eq_true (of_decide_eq_true c10b0_0)))
                  (try (have c10b0_1 := c10b0; rw [LDc3.out] at c10b0_1))
                  (try (have c10b0_1p := eq_true (of_decide_eq_true c10b0_1)))
                  clear c10
                  by_cases c11 : x14_1 < (x5_1.length : Int)
                  · rw [if_pos c11] at H
                    have c11b0 : decide (x14_1 < (x5_1.length : Int)) = true := decide_eq_true c11
                    (try (have c11b0_0 := c11b0; rw [LTc3.out] at c11b0_0))
                    (try (have c11b0_0p := eq_true (of_decide_eq_true c11b0_0)))
                    (try (have c11b0_1 := c11b0; rw [LDc3.out] at c11b0_1))
                    (try (have c11b0_1p := eq_true (of_decide_eq_true c11b0_1)))
                    clear c11
                    obtain ⟨y348, hy348⟩ : ∃ y_ : List Int, y_ = (x5_1.set (x14_1 : Int).toNat (Int.tmod (IntKind.u64.wrap ((IntKind.u64.wrap ((rd l0 x14_1) - x6_1)) - (rd l1 x14_1))) 65536)) := ⟨_, rfl⟩
                    replace H : (natural_sub.l0 k1 l1 y348 ((IntKind.u64.wrap ((IntKind.u64.wrap ((rd l0 x14_1) - x6_1)) - (rd l1 x14_1))) / 9223372036854775808) l0 (l0.length : Int) (wrap64 (x14_1 + 1))) = some r := by first | (rw [hy348]; with_reducible exact H) | (have H2_ := (Option.bind_some _ _).symm.trans H; rw [hy348]; with_reducible exact H2_) | (have H2_ := (Option.bind_some _ _).symm.trans H; with_reducible exact H2_) | with_reducible exact H | (rw [hy348]; exact H) | exact H
                    have Ny348 := Aside0.mk hy348
                    clear hy348
                    have H' := Aside0.mk H
                    clear H
                    have p346 : 0 ≤ (x14_1 : Int) := of_decide_eq_true (by first | (with_reducible assumption) | assumption)
                    have q346 : x14_1 < (l0.length : Int) := of_decide_eq_true (by first | (with_reducible assumption) | assumption)
                    obtain ⟨ad346, e346, hx346_0⟩ := Kd.at_int HR0.out x14_1 p346 q346
                    cases e346
                    replace hx346_0 := (HB.out.cell (World.block_lt_of_cell? w _ hx346_0)).trans hx346_0
                    replace p346 := eq_true p346
                    replace q346 := eq_true q346
                    have p347 : 0 ≤ (x14_1 : Int) := of_decide_eq_true (by first | (with_reducible assumption) | assumption)
                    have q347 : x14_1 < (l1.length : Int) := of_decide_eq_true (by first | (with_reducible assumption) | assumption)
                    obtain ⟨ad347, e347, hx347_0⟩ := Kd.at_int HR1.out x14_1 p347 q347
                    cases e347
                    replace hx347_0 := (HB.out.cell (World.block_lt_of_cell? w _ hx347_0)).trans hx347_0
                    replace p347 := eq_true p347
                    replace q347 := eq_true q347
                    have p12 : 0 ≤ (x14_1 : Int) := of_decide_eq_true (by first | (with_reducible assumption) | assumption)
                    have q12 : (x14_1 : Int) < ((x5_1.length : Int) : Int) := of_decide_eq_true (by first | (with_reducible assumption) | assumption)
                    obtain ⟨go12, co12, eo12, gb12, gl12, cl12, HG12⟩ := Kd.R_form HO_5.out (by omega)
                    (first | cases eo12 | (injection eo12 with ea_ en_ ec_; (first | subst ea_ | (injection ea_ with ea_; subst ea_)); subst ec_; clear en_))
                    have GB12 := Aside0.mk gb12
                    have GG12 := Aside0.mk HG12
                    clear gb12 gl12 HG12
                    obtain ⟨hx12_0, hf12_0⟩ := Kd.R_celln 0 HO_5.out (x14_1 : Int) p12 q12
                    replace p12 := eq_true p12
                    replace q12 := eq_true q12
                    have HP13 := Kd.R_putg HO_5.out (x14_1 : Int) (Int.tmod (IntKind.u64.wrap ((IntKind.u64.wrap ((rd l0 x14_1) - x6_1)) - (rd l1 x14_1))) 65536)
                    go_wp2_with (first | ((with_reducible refine gate_store (t := 29) (p := 38) rfl ?_); refine store_event (t := 29) (p := 38) (v := ?vo_w14) (w1 := (wr.setCell ⟨go12, (x14_1 : Int).toNat, none⟩ (.int .u64 (Int.tmod (IntKind.u64.wrap ((IntKind.u64.wrap ((rd l0 x14_1) - x6_1)) - (rd l1 x14_1))) 65536)))) ?hg ?ho ?hn ?hr ?_; (case ho => rfl); (case hg => rfl); (case hn => rfl); (case hr => first | (go_simp; done) | (go_simp; rfl)); intro w14 hw; have hg : wr.grownBy w14 (some go12) := (by rw [hw]; exact HP13.2); have hp_ : Kd.R (Kd.int .u64) 29 w14 w.heap.size (fun k_ => (w.heap.size ≤ k_)) (.slice (some ⟨go12, 0, none⟩) x5_1.length co12) y348 := (by rw [hw, Ny348.out]; exact HP13.1); clear HP13; have n0_ := Aside0.mk (hp_); have n1_ := Aside0.mk ((by rw [hw]; exact below_set (HB.out) GB12.out : Below w.heap.size w w14)); clear HO_5; clear HB; have HO_5 := n0_; have HB := n1_; clear n0_ n1_; clear hg hw hp_))
                    (first | go_roundg k1 | (simp only [add_plain] at *; go_roundg k1))
                    case measure => have := HK1.out; omega
                    case rel => exact ⟨(y348), ((IntKind.u64.wrap ((IntKind.u64.wrap ((rd l0 x14_1) - x6_1)) - (rd l1 x14_1))) / 9223372036854775808), (wrap64 (x14_1 + 1)), (by first | rfl | (simp; done) | (simp [*]; done)), (by first | rfl | (simp; done) | (simp [*]; done)), H', ⟨by have := HK1.out; omega⟩, ⟨by (with_reducible repeat (first | apply Kd.R_alloc | apply Kd.R_drewN | apply Kd.R_drew)); exact HO_5.out⟩, ⟨by repeat (first | (with_reducible first | exact HB.out | apply below_alloc | apply pw_below_drewN | apply below_drew1) | exact HB.out)⟩⟩
                  · rw [if_neg c11] at H
                    exact absurd H (by simp)
                · rw [if_neg c10] at H
                  have c10b0 : decide (x14_1 < (l1.length : Int)) = false := decide_eq_false c10
                  (try (have c10b0_0 := c10b0; rw [LTc3.out] at c10b0_0))
                  (try (have c10b0_1 := c10b0; rw [LDc3.out] at c10b0_1))
                  clear c10
                  by_cases c15 : x14_1 < (x5_1.length : Int)
                  · rw [if_pos c15] at H
                    have c15b0 : decide (x14_1 < (x5_1.length : Int)) = true := decide_eq_true c15
                    (try (have c15b0_0 := c15b0; rw [LTc3.out] at c15b0_0))
                    (try (have c15b0_0p := eq_true (of_decide_eq_true c15b0_0)))
                    (try (have c15b0_1 := c15b0; rw [LDc3.out] at c15b0_1))
                    (try (have c15b0_1p := eq_true (of_decide_eq_true c15b0_1)))
                    clear c15
                    obtain ⟨y349, hy349⟩ : ∃ y_ : List Int, y_ = (x5_1.set (x14_1 : Int).toNat (Int.tmod (IntKind.u64.wrap ((rd l0 x14_1) - x6_1)) 65536)) := ⟨_, rfl⟩
                    replace H : (natural_sub.l0 k1 l1 y349 ((IntKind.u64.wrap ((rd l0 x14_1) - x6_1)) / 9223372036854775808) l0 (l0.length : Int) (wrap64 (x14_1 + 1))) = some r := by first | (rw [hy349]; with_reducible exact H) | (have H2_ := (Option.bind_some _ _).symm.trans H; rw [hy349]; with_reducible exact H2_) | (have H2_ := (Option.bind_some _ _).symm.trans H; with_reducible exact H2_) | with_reducible exact H | (rw [hy349]; exact H) | exact H
                    have Ny349 := Aside0.mk hy349
                    clear hy349
                    have H' := Aside0.mk H
                    clear H
                    have p346 : 0 ≤ (x14_1 : Int) := of_decide_eq_true (by first | (with_reducible assumption) | assumption)
                    have q346 : x14_1 < (l0.length : Int) := of_decide_eq_true (by first | (with_reducible assumption) | assumption)
                    obtain ⟨ad346, e346, hx346_0⟩ := Kd.at_int HR0.out x14_1 p346 q346
                    cases e346
                    replace hx346_0 := (HB.out.cell (World.block_lt_of_cell? w _ hx346_0)).trans hx346_0
                    replace p346 := eq_true p346
                    replace q346 := eq_true q346
                    have p16 : 0 ≤ (x14_1 : Int) := of_decide_eq_true (by first | (with_reducible assumption) | assumption)
                    have q16 : (x14_1 : Int) < ((x5_1.length : Int) : Int) := of_decide_eq_true (by first | (with_reducible assumption) | assumption)
                    obtain ⟨go16, co16, eo16, gb16, gl16, cl16, HG16⟩ := Kd.R_form HO_5.out (by omega)
                    (first | cases eo16 | (injection eo16 with ea_ en_ ec_; (first | subst ea_ | (injection ea_ with ea_; subst ea_)); subst ec_; clear en_))
                    have GB16 := Aside0.mk gb16
                    have GG16 := Aside0.mk HG16
                    clear gb16 gl16 HG16
                    obtain ⟨hx16_0, hf16_0⟩ := Kd.R_celln 0 HO_5.out (x14_1 : Int) p16 q16
                    replace p16 := eq_true p16
                    replace q16 := eq_true q16
                    have HP17 := Kd.R_putg HO_5.out (x14_1 : Int) (Int.tmod (IntKind.u64.wrap ((rd l0 x14_1) - x6_1)) 65536)
                    go_wp2_with (first | ((with_reducible refine gate_store (t := 29) (p := 38) rfl ?_); refine store_event (t := 29) (p := 38) (v := ?vo_w18) (w1 := (wr.setCell ⟨go16, (x14_1 : Int).toNat, none⟩ (.int .u64 (Int.tmod (IntKind.u64.wrap ((rd l0 x14_1) - x6_1)) 65536)))) ?hg ?ho ?hn ?hr ?_; (case ho => rfl); (case hg => rfl); (case hn => rfl); (case hr => first | (go_simp; done) | (go_simp; rfl)); intro w18 hw; have hg : wr.grownBy w18 (some go16) := (by rw [hw]; exact HP17.2); have hp_ : Kd.R (Kd.int .u64) 29 w18 w.heap.size (fun k_ => (w.heap.size ≤ k_)) (.slice (some ⟨go16, 0, none⟩) x5_1.length co16) y349 := (by rw [hw, Ny349.out]; exact HP17.1); clear HP17; have n0_ := Aside0.mk (hp_); have n1_ := Aside0.mk ((by rw [hw]; exact below_set (HB.out) GB16.out : Below w.heap.size w w18)); clear HO_5; clear HB; have HO_5 := n0_; have HB := n1_; clear n0_ n1_; clear hg hw hp_))
                    (first | go_roundg k1 | (simp only [add_plain] at *; go_roundg k1))
                    case measure => have := HK1.out; omega
                    case rel => exact ⟨(y349), ((IntKind.u64.wrap ((rd l0 x14_1) - x6_1)) / 9223372036854775808), (wrap64 (x14_1 + 1)), (by first | rfl | (simp; done) | (simp [*]; done)), (by first | rfl | (simp; done) | (simp [*]; done)), H', ⟨by have := HK1.out; omega⟩, ⟨by (with_reducible repeat (first | apply Kd.R_alloc | apply Kd.R_drewN | apply Kd.R_drew)); exact HO_5.out⟩, ⟨by repeat (first | (with_reducible first | exact HB.out | apply below_alloc | apply pw_below_drewN | apply below_drew1) | exact HB.out)⟩⟩
                  · rw [if_neg c15] at H
                    exact absurd H (by simp)
              · rw [if_neg c9] at H
                exact absurd H (by simp)
            · rw [if_neg c8] at H
              exact absurd H (by simp)
          · rw [if_neg c7] at H
            have c7b0 : decide (x14_1 < (l0.length : Int)) = false := decide_eq_false c7
            (try (have c7b0_0 := c7b0; rw [LTc3.out] at c7b0_0))
            (try (have c7b0_1 := c7b0; rw [LDc3.out] at c7b0_1))
            clear c7
            replace H := Option.bind_eq_some_iff.mp H
            obtain ⟨t350, A190, H⟩ := H
            replace H : (some t350) = some r := H
            have A19 := Aside0.mk A190
            clear A190
            obtain rfl := Option.some.inj H
            obtain ⟨Ao20, co20, eo20⟩ := Kd.R_slice HO_5.out
            subst eo20
            go_wp2_with (first | ((with_reducible refine gate_callee (f := 81) rfl ?_); refine goesL_ (some 41) rfl rfl Try.func81 (by kernel_rfl) rfl #[.slice Ao20 x5_1.length co20] rfl (by (try simp only [List.map_toArray, List.map_cons, List.map_nil]); first | done | rfl | (simp only [List.length_drop, List.length_take]; rfl)) ?_; (with_reducible refine (natural_trim.calls (fun k_ => some k_ = (.slice Ao20 x5_1.length co20 : Value).ownBlock) _ _ x5_1 t350 _ ?side1 A19.out).mono ?_); (case side1 => exact Kd.R_V (Kd.R_tight rfl (HO_5.out))); rintro e w21 ⟨v351, rfl, ho0, hb⟩; refine ⟨_, rfl, ?_⟩; have n0_ := Aside0.mk (Kd.R_below (by (with_reducible repeat (first | apply Kd.R_alloc | apply Kd.R_drewN | apply Kd.R_drew)); exact HO_5.out) hb); have n1_ := Aside0.mk (Kd.V_lower (Kd.V_mono (ok' := fun k_ => (w.heap.size ≤ k_)) ho0 (fun k_ hk_ => Or.elim hk_ (fun hs_ => ((HO_5.out).1 k_ hs_.symm)) (fun hn_ => (Nat.le_trans (below_size (by repeat (first | (with_reducible first | exact HB.out | apply below_alloc | apply pw_below_drewN | apply below_drew1) | exact HB.out))) hn_)))) (below_size (by repeat (first | (with_reducible first | exact HB.out | apply below_alloc | apply pw_below_drewN | apply below_drew1) | exact HB.out)))); have n2_ := Aside0.mk (below_step (by repeat (first | (with_reducible first | exact HB.out | apply below_alloc | apply pw_below_drewN | apply below_drew1) | exact HB.out)) hb); clear HO_5; clear HB; have HO_5 := n0_; have HO352 := n1_; have HB := n2_; clear n0_ n1_ n2_; (try clear hb); (try clear hb2); (try clear hk); (try clear hi); (try clear ho0)))
            go_ret
            exact ⟨_, by first | rfl | (simp [errW_none, errW_some] <;> rfl) | (simp [*, errW_none, errW_some] <;> rfl), by (with_reducible repeat (first | apply Kd.V_alloc | apply Kd.V_drewN | apply Kd.V_drew)); exact HO352.out, by repeat (first | (with_reducible first | exact HB.out | apply below_alloc | apply pw_below_drewN | apply below_drew1) | exact HB.out)⟩
    · rw [if_neg c4] at H
      exact absurd H (by simp)
  · rw [if_neg c3] at H
    exact absurd H (by simp)

/-! ### natural_Root: function 32 (by hand) -/
/-- A root with one bit more. -/
def hk_pad (l : List Int) (m : Nat) : List Int := l ++ List.replicate (m - l.length) 0
def hk_try (l : List Int) (b : Nat) : List Int := (hk_pad l (max l.length (b / 16 + 1))).set (b / 16) (Go.bits .or .u64 (rd (hk_pad l (max l.length (b / 16 + 1))) ((b / 16 : Nat) : Int)) (IntKind.u64.wrap ((2 : Int) ^ (b % 16))))
/-- Bit by bit, from the highest one on. -/
def hk_root (k : Nat) (a : List Int) : Nat → List Int → Option (List Int)
  | 0, R => some R
  | b + 1, R => if R.length ≤ 4096 ∧ b ≤ 4096 then (natural_times.f k (hk_try R b) (hk_try R b)).bind fun q => if q.2 = 0 then (natural_compare.f k q.1 a).bind fun c => if c ≤ 0 then hk_root k a b (hk_try R b) else hk_root k a b R else hk_root k a b R else none
theorem hk_root_mono (k : Nat) (a : List Int) : ∀ b R, LeO (hk_root k a b R) (hk_root (k + 1) a b R)
  | 0, _ => LeO.refl _
  | b + 1, R => by
    unfold hk_root
    exact LeO.ite (LeO.bind (natural_times.mono _ _ _) (fun q => LeO.ite (LeO.bind (natural_compare.mono _ _ _) (fun c => LeO.ite (hk_root_mono k a b _) (hk_root_mono k a b _))) (hk_root_mono k a b _))) (LeO.none _)
def natural_Root.f (k : Nat) (a : List Int) : Option (List Int × List Int × Int) := if hk_good a = true then (if 64 < a.length then some ([], [], 14) else (hk_root k a (8 * a.length) []).bind fun R => (natural_times.f k R R).bind fun q => (natural_sub.f k a q.1).bind fun s => some (R, s, 0)) else some ([], [], 10)
theorem natural_Root.mono : ∀ a0 k, LeO (natural_Root.f k a0) (natural_Root.f (k + 1) a0) := fun a0 k => LeO.ite (LeO.ite (LeO.refl _) (LeO.bind (hk_root_mono k _ _ _) (fun R => LeO.bind (natural_times.mono _ _ _) (fun q => LeO.bind (natural_sub.mono _ _ _) (fun s => LeO.refl _))))) (LeO.refl _)
theorem hk_root_arith (o : List Int) (b : Nat) (hb : b ≤ 511) (ho : o.length ≤ 4096) : ∃ (q r m : Nat) (q1 : Int) (x : List Int), hk_try o b = x.set q (Go.bits .or .u64 (rd x (q : Int)) (IntKind.u64.wrap ((2 : Int) ^ r))) ∧ x.length = m ∧ o ++ List.replicate (m - o.length) 0 = x ∧ Int.tdiv (b : Int) 16 = (q : Int) ∧ Int.tmod (b : Int) 16 = (r : Int) ∧ wrap64 (q : Int) = (q : Int) ∧ wrap64 ((q : Int) + 1) = q1 ∧ r < 16 ∧ (if (o.length : Int) < q1 then q1 else (o.length : Int)).toNat = m ∧ 0 ≤ (if (o.length : Int) < q1 then q1 else (o.length : Int)) ∧ m ≤ 8192 ∧ o.length ≤ m ∧ q < m := by
  refine ⟨b / 16, b % 16, max o.length (b / 16 + 1), ((b / 16 : Nat) : Int) + 1, hk_pad o (max o.length (b / 16 + 1)), rfl, ?_, rfl, ?_, ?_, ?_, ?_, by omega, ?_, ?_, by omega, by omega, by omega⟩
  · unfold hk_pad; rw [List.length_append, List.length_replicate]; omega
  · rw [Int.tdiv_eq_ediv_of_nonneg (by omega)]; omega
  · rw [Int.tmod_eq_emod_of_nonneg (by omega)]; omega
  · unfold wrap64; omega
  · unfold wrap64; omega
  · split <;> omega
  · split <;> omega
theorem hk_V_ge {e b0 b1 b2 : Nat} {W : World} {ok : Nat → Prop} {v : Value} {xs : List Int} (h : Kd.R (Kd.int .u64) e W b1 ok v xs) (hb : b2 ≤ b1) : Kd.V (Kd.int .u64) e W b0 (fun k_ => (b2 ≤ k_)) v xs :=
  Kd.V_mono (Kd.R_V (base' := b0) (Kd.R_bound h)) (fun k_ hk => Nat.le_trans hb hk.2.1)
theorem hk_times_at2 (k : Nat) (P0_ : Nat → Prop) (A0 : Option Addr) (c0 m0 : Nat) (l0 : List Int) (r1 : List Int) (r2 : Int) (w : World) (h0 : m0 = l0.length) (hs0 : Kd.V (Kd.int .u64) 29 w w.heap.size (fun k_ => P0_ k_) (.slice A0 m0 c0) l0) (h : natural_times.f k l0 l0 = some (r1, r2)) :
    Calls Try.prog 54 #[.slice A0 m0 c0, .slice A0 m0 c0] w fun e w' => ∃ v0_ : Value, e = .returned (.tuple #[v0_, .int .i64 r2]) ∧ Kd.V (Kd.int .u64) 29 w' w.heap.size (fun k_ => ((P0_ k_ ∨ P0_ k_) ∨ w.heap.size ≤ k_)) v0_ r1 ∧ Below w.heap.size w w' := by
  subst h0
  exact natural_times.calls k P0_ A0 c0 l0 P0_ A0 c0 l0 r1 r2 w hs0 hs0 h
set_option maxHeartbeats 8000000 in
set_option maxRecDepth 100000 in
theorem natural_Root.calls (k : Nat) (A0 : Option Addr) (c0 : Nat) (l0 : List Int) (r1 : List Int) (r2 : List Int) (r3 : Int) (w : World) (hr0 : Kd.C (Kd.int .u64) w A0 l0.length l0) (hc0 : l0.length ≤ c0) (h : natural_Root.f k l0 = some (r1, r2, r3)) :
    Calls Try.prog 32 #[.slice A0 l0.length c0] w fun e w' => ∃ v0_ v1_ : Value, e = .returned (.tuple #[v0_, v1_, .int .i64 r3]) ∧ Kd.V (Kd.int .u64) 29 w' w.heap.size (fun k_ => (w.heap.size ≤ k_)) v0_ r1 ∧ Kd.V (Kd.int .u64) 29 w' w.heap.size (fun k_ => (w.heap.size ≤ k_)) v1_ r2 ∧ Below w.heap.size w w' := by
  have HR0 := Aside0.mk hr0
  have HC0 := Aside0.mk hc0
  clear hr0 hc0
  unfold natural_Root.f at h
  by_cases hg : hk_good l0 = true
  · rw [if_pos hg] at h
    have HG := Aside0.mk (show natural_Good.f l0 = some true by unfold natural_Good.f; rw [hg])
    clear hg
    by_cases hl : 64 < l0.length
    · rw [if_pos hl] at h
      simp only [Option.some.injEq, Prod.mk.injEq] at h
      obtain ⟨rfl, rfl, rfl⟩ := h
      have d1 : decide (64 < (l0.length : Int)) = true := decide_eq_true (by omega)
      have d2 : (64 < l0.length) = True := eq_true hl
      clear hl
      go_enter Try.func32, Try.ntmps32
      go_wp2_with ((go_at_call 55; (with_reducible refine (natural_Good.calls A0 c0 l0 true _ HR0.out HC0.out HG.out).mono ?_); rintro e w1 ⟨rfl, hd1⟩; have HB1 := Aside0.mk hd1.below; clear hd1))
      go_ret3
      exact ⟨_, _, rfl, Kd.V_nil _ _ _ _ _, Kd.V_nil _ _ _ _ _, by repeat (first | exact HB1.out | apply pw_below_drewN | apply below_drew1)⟩
    · rw [if_neg hl] at h
      obtain ⟨R, hR, h⟩ := Option.bind_eq_some_iff.1 h
      obtain ⟨⟨q1, q2⟩, hq, h⟩ := Option.bind_eq_some_iff.1 h
      obtain ⟨s, hs, h⟩ := Option.bind_eq_some_iff.1 h
      simp only [Option.some.injEq, Prod.mk.injEq] at h
      obtain ⟨rfl, rfl, rfl⟩ := h
      have d1 : decide (64 < (l0.length : Int)) = false := decide_eq_false (by omega)
      have d2 : (64 < l0.length) = False := eq_false hl
      have HL := Aside0.mk hl
      have H := Aside0.mk hR
      have HQ := Aside0.mk hq
      have HS := Aside0.mk hs
      have m1 : wrap64 (8 * (l0.length : Int)) = 8 * (l0.length : Int) := by unfold wrap64; omega
      have m2 : wrap64 (8 * (l0.length : Int) - 1) = 8 * (l0.length : Int) - 1 := by unfold wrap64; omega
      clear hl hR hq hs
      go_enter Try.func32, Try.ntmps32
      go_wp2_with ((go_at_call 55; (with_reducible refine (natural_Good.calls A0 c0 l0 true _ HR0.out HC0.out HG.out).mono ?_); rintro e w1 ⟨rfl, hd1⟩; have HB1 := Aside0.mk hd1.below; clear hd1))
      clear d1 d2 m1 m2
      go_loopg [2, 5] (8 * l0.length) (fun kq v2 v5 w' => ∃ (o : List Int), v5 = .int .i64 ((kq : Int) - 1) ∧ Aside0 (hk_root k l0 kq o = some R) ∧ Aside0 (kq ≤ 512) ∧ Aside0 (Kd.V (Kd.int .u64) 29 w' w.heap.size (fun k_ => (w.heap.size ≤ k_)) v2 o) ∧ Aside0 (Below w.heap.size w w'))
      case atStart => exact ⟨[], congrArg (Value.int .i64) (by have h_ := HL.out; unfold wrap64; omega), H, ⟨by have := HL.out; omega⟩, ⟨Kd.V_nil _ _ _ _ _⟩, ⟨by repeat (first | exact HB1.out | apply pw_below_drewN | apply below_drew1)⟩⟩
      case round =>
        clear H HB1
        obtain ⟨o, rfl, H, HK, HO, HB⟩ := hrel
        obtain ⟨Ao, co, eo⟩ := Kd.V_slice HO.out
        subst eo
        cases gk with
        | zero =>
          have ho : o = R := Option.some.inj H.out
          subst ho
          clear H
          go_wp2_with (first | (go_at_call 54; (with_reducible refine (natural_times.calls k (fun k_ => (w.heap.size ≤ k_)) Ao co o (fun k_ => (w.heap.size ≤ k_)) Ao co o q1 q2 _ ?s0 ?s1 HQ.out).mono ?_); (case s0 => exact Kd.V_map HO.out (fun _ hf => hf)); (case s1 => exact Kd.V_map HO.out (fun _ hf => hf)); rintro e w8 ⟨v8, rfl, hv8, hb8⟩; obtain ⟨Aq, cq, eq_⟩ := Kd.V_slice hv8; subst eq_; have HV8 := Aside0.mk hv8; have HO8 := Aside0.mk (Kd.V_below HO.out hb8); have HB8 := Aside0.mk (below_step HB.out hb8); clear hv8 hb8) | (go_at_call 62; (with_reducible refine (natural_sub.calls k A0 c0 l0 Aq cq q1 s _ (Kd.C_below HR0.out HB8.out) HC0.out (Kd.V_reads' HV8.out).2.2 (Kd.V_reads' HV8.out).2.1 HS.out).mono ?_); rintro e w9 ⟨v9, rfl, hv9, hb9⟩; have HV9 := Aside0.mk (Kd.V_map (base' := w.heap.size) hv9 (fun _ hf => Kd.F_mono (ok' := fun k_ => (w.heap.size ≤ k_)) hf (fun k_ hk => Nat.le_trans HB8.out.size hk))); have HO9 := Aside0.mk (Kd.V_below HO8.out hb9); have HB9 := Aside0.mk (below_step HB8.out hb9); clear hv9 hb9))
          go_ret3
          exact ⟨_, _, rfl, by (with_reducible repeat (first | apply Kd.V_drewN | apply Kd.V_drew)); exact HO9.out, by (with_reducible repeat (first | apply Kd.V_drewN | apply Kd.V_drew)); exact HV9.out, by repeat (first | exact HB9.out | apply pw_below_drewN | apply below_drew1)⟩
        | succ b =>
          have h := H.out
          unfold hk_root at h
          by_cases hlim : o.length ≤ 4096 ∧ b ≤ 4096
          · rw [if_pos hlim] at h
            obtain ⟨⟨p1, p2⟩, hp, h⟩ := Option.bind_eq_some_iff.1 h
            have HP := Aside0.mk hp
            obtain ⟨q, r, m, qi, x, hy, hxl, hxx, t1, t2, t3, t4, hr16, hz, hz0, hm, hom, hqm⟩ := hk_root_arith o b (by have := HK.out; omega) hlim.1
            have HBB := Aside0.mk (show b ≤ 511 by have := HK.out; omega)
            have HY := Aside0.mk hy
            have HXL := Aside0.mk hxl
            have HXX := Aside0.mk hxx
            have HZ := Aside0.mk hz
            have HZ0 := Aside0.mk hz0
            have HM := Aside0.mk hm
            have HOM := Aside0.mk hom
            have HQM := Aside0.mk hqm
            have c1 : decide (0 ≤ (b : Int)) = true := decide_eq_true (by omega)
            have c2 : (0 ≤ (b : Int)) = True := eq_true (by omega)
            have e1 : ((b + 1 : Nat) : Int) - 1 = (b : Int) := by omega
            have e2 : ((b : Int) + 1) - 1 = (b : Int) := by omega
            clear hlim hp hy hxl hxx hz hz0 hm hom hqm
            rw [e1]
            have HW := Aside0.mk (Below.refl wr.heap.size wr)
            by_cases cp2 : p2 = 0
            · subst cp2
              rw [if_pos rfl] at h
              obtain ⟨cc, hcc, h⟩ := Option.bind_eq_some_iff.1 h
              have HCC := Aside0.mk hcc
              clear hcc
              by_cases c0_ : cc ≤ 0
              · rw [if_pos c0_] at h
                have HN := Aside0.mk h
                have g1 : decide (cc ≤ 0) = true := decide_eq_true c0_
                have g2 : (cc ≤ 0) = True := eq_true c0_
                clear h c0_ H
                go_wp2_with (first | ((with_reducible refine gate_dst (N := 33) rfl ?_); refine Kd.R_make (Kd.int .u64) _ 29 rfl (N := 33) rfl 22 _ _ rfl (if (o.length : Int) < qi then qi else (o.length : Int)) rfl rfl Try.underlying22 (.int .u64 0) 8 info29 rfl (by decide) (by omega) 0 (ok := fun _ => True) (okp := fun _ => True) rfl (fun _ hk => hk) trivial HZ0.out ?aN HW.out (Nat.le_refl _) ?_; (case aN => have h1_ := HM.out; have h4_ := HZ.out; omega); intro v1 w1 ho1 hb1 hg_ hnew_; clear hg_ hnew_; rw [HZ.out] at ho1; have ho1 := Aside0.mk ho1; have hb1 := Aside0.mk hb1) | ((with_reducible refine gate_builtin (b := .copy) (xs := #[.tmp 34, .tmp 35]) rfl ?_); refine Kd.R_copy (enc := Value.int .u64) (h1 := fun _ => rfl) (0 : Int) (w0 := wr) wr.heap.size rfl (.tmp 34) (.tmp 35) 22 22 29 rfl Try.underlying22 (by kernel_rfl) v1 (List.replicate m 0) o Ao o.length _ (fun _ => True) rfl rfl ho1.out (Kd.C_below (Kd.V_reads' HO.out).2.2 hb1.out) hb1.out hb1.out.size ?_; intro w2 hR_ hB_ _; rw [List.length_replicate, Nat.min_eq_left HOM.out, List.take_length, List.drop_replicate, HXX.out] at hR_; obtain ⟨g, cap, eg, hgb, _, _⟩ := Kd.R_form hR_ (by have h1_ := HXL.out; have h2_ := HQM.out; omega); subst eg; have HR := Aside0.mk hR_; have HB2 := Aside0.mk hB_; have GE := Aside0.mk hgb; obtain ⟨hxa, hfa⟩ := Kd.R_celln 0 hR_ (q : Int) (by omega) (by have h1_ := HXL.out; have h2_ := HQM.out; omega); rw [show rdOf 0 x (q : Int) = rd x (q : Int) from rfl, Int.toNat_natCast] at hxa; rw [Int.toNat_natCast] at hfa; have c5 : ((q : Int) < (x.length : Int)) = True := eq_true (by have h1_ := HXL.out; have h2_ := HQM.out; omega); have c6 : (q < x.length) = True := eq_true (by have h1_ := HXL.out; have h2_ := HQM.out; omega); have c7 : (0 ≤ (q : Int)) = True := eq_true (by omega); clear hR_ hB_ hgb ho1 hb1) | (go_at_call 54; have PA := Aside0.mk (Kd.R_putn HR.out (q : Int) (Go.bits .or .u64 (rd x (q : Int)) (IntKind.u64.wrap ((2 : Int) ^ r)))); rw [Int.toNat_natCast, ← HY.out] at PA; have VA := Aside0.mk (hk_V_ge (b0 := w.heap.size) PA.out (show w.heap.size ≤ wr.heap.size from HB.out.size)); have HYL := Aside0.mk (Kd.V_at VA.out).1; have HB3 := Aside0.mk (below_set HB2.out GE.out (j := q) (v := .int .u64 (Go.bits .or .u64 (rd x (q : Int)) (IntKind.u64.wrap ((2 : Int) ^ r))))); (with_reducible refine (hk_times_at2 k (fun k_ => (w.heap.size ≤ k_)) (some ⟨g, 0, none⟩) cap x.length (hk_try o b) p1 0 _ HYL.out ?s0 HP.out).mono ?_); (case s0 => exact Kd.V_map VA.out (fun _ hf => hf)); rintro e w8 ⟨v8, rfl, hv8, hb8⟩; obtain ⟨Ap, cp, ep⟩ := Kd.V_slice hv8; subst ep; have HV8 := Aside0.mk hv8; have VA8 := Aside0.mk (Kd.V_below VA.out hb8); have HW8 := Aside0.mk (below_step HB3.out hb8); have HO8 := Aside0.mk (Kd.V_below HO.out HW8.out); have HB8 := Aside0.mk (below_step HB.out HW8.out); clear hv8 hb8 PA VA HB3 HR HB2 hxa hfa HO HB) | (go_at_call 61; (with_reducible refine (natural_compare.calls k Ap cp p1 A0 c0 l0 cc _ (Kd.V_reads' HV8.out).2.2 (Kd.V_reads' HV8.out).2.1 (Kd.C_below HR0.out HB8.out) HC0.out HCC.out).mono ?_); rintro e w9 ⟨rfl, hd9⟩; have HB9 := Aside0.mk (below_step HB8.out hd9.below); have HO9 := Aside0.mk (Kd.V_below HO8.out hd9.below); have VA9 := Aside0.mk (Kd.V_below VA8.out hd9.below); clear hd9))
                all_goals
                  go_roundg b
                  case measure => omega
                  case rel => exact ⟨hk_try o b, congrArg (Value.int .i64) (by have h_ := HBB.out; unfold wrap64; omega), HN, ⟨by have := HBB.out; omega⟩, ⟨by (with_reducible repeat (first | apply Kd.V_drewN | apply Kd.V_drew)); exact VA9.out⟩, ⟨by repeat (first | exact HB9.out | apply pw_below_drewN | apply below_drew1)⟩⟩
              · rw [if_neg c0_] at h
                have HN := Aside0.mk h
                have g1 : decide (cc ≤ 0) = false := decide_eq_false c0_
                have g2 : (cc ≤ 0) = False := eq_false c0_
                clear h c0_ H
                go_wp2_with (first | ((with_reducible refine gate_dst (N := 33) rfl ?_); refine Kd.R_make (Kd.int .u64) _ 29 rfl (N := 33) rfl 22 _ _ rfl (if (o.length : Int) < qi then qi else (o.length : Int)) rfl rfl Try.underlying22 (.int .u64 0) 8 info29 rfl (by decide) (by omega) 0 (ok := fun _ => True) (okp := fun _ => True) rfl (fun _ hk => hk) trivial HZ0.out ?aN HW.out (Nat.le_refl _) ?_; (case aN => have h1_ := HM.out; have h4_ := HZ.out; omega); intro v1 w1 ho1 hb1 hg_ hnew_; clear hg_ hnew_; rw [HZ.out] at ho1; have ho1 := Aside0.mk ho1; have hb1 := Aside0.mk hb1) | ((with_reducible refine gate_builtin (b := .copy) (xs := #[.tmp 34, .tmp 35]) rfl ?_); refine Kd.R_copy (enc := Value.int .u64) (h1 := fun _ => rfl) (0 : Int) (w0 := wr) wr.heap.size rfl (.tmp 34) (.tmp 35) 22 22 29 rfl Try.underlying22 (by kernel_rfl) v1 (List.replicate m 0) o Ao o.length _ (fun _ => True) rfl rfl ho1.out (Kd.C_below (Kd.V_reads' HO.out).2.2 hb1.out) hb1.out hb1.out.size ?_; intro w2 hR_ hB_ _; rw [List.length_replicate, Nat.min_eq_left HOM.out, List.take_length, List.drop_replicate, HXX.out] at hR_; obtain ⟨g, cap, eg, hgb, _, _⟩ := Kd.R_form hR_ (by have h1_ := HXL.out; have h2_ := HQM.out; omega); subst eg; have HR := Aside0.mk hR_; have HB2 := Aside0.mk hB_; have GE := Aside0.mk hgb; obtain ⟨hxa, hfa⟩ := Kd.R_celln 0 hR_ (q : Int) (by omega) (by have h1_ := HXL.out; have h2_ := HQM.out; omega); rw [show rdOf 0 x (q : Int) = rd x (q : Int) from rfl, Int.toNat_natCast] at hxa; rw [Int.toNat_natCast] at hfa; have c5 : ((q : Int) < (x.length : Int)) = True := eq_true (by have h1_ := HXL.out; have h2_ := HQM.out; omega); have c6 : (q < x.length) = True := eq_true (by have h1_ := HXL.out; have h2_ := HQM.out; omega); have c7 : (0 ≤ (q : Int)) = True := eq_true (by omega); clear hR_ hB_ hgb ho1 hb1) | (go_at_call 54; have PA := Aside0.mk (Kd.R_putn HR.out (q : Int) (Go.bits .or .u64 (rd x (q : Int)) (IntKind.u64.wrap ((2 : Int) ^ r)))); rw [Int.toNat_natCast, ← HY.out] at PA; have VA := Aside0.mk (hk_V_ge (b0 := w.heap.size) PA.out (show w.heap.size ≤ wr.heap.size from HB.out.size)); have HYL := Aside0.mk (Kd.V_at VA.out).1; have HB3 := Aside0.mk (below_set HB2.out GE.out (j := q) (v := .int .u64 (Go.bits .or .u64 (rd x (q : Int)) (IntKind.u64.wrap ((2 : Int) ^ r))))); (with_reducible refine (hk_times_at2 k (fun k_ => (w.heap.size ≤ k_)) (some ⟨g, 0, none⟩) cap x.length (hk_try o b) p1 0 _ HYL.out ?s0 HP.out).mono ?_); (case s0 => exact Kd.V_map VA.out (fun _ hf => hf)); rintro e w8 ⟨v8, rfl, hv8, hb8⟩; obtain ⟨Ap, cp, ep⟩ := Kd.V_slice hv8; subst ep; have HV8 := Aside0.mk hv8; have VA8 := Aside0.mk (Kd.V_below VA.out hb8); have HW8 := Aside0.mk (below_step HB3.out hb8); have HO8 := Aside0.mk (Kd.V_below HO.out HW8.out); have HB8 := Aside0.mk (below_step HB.out HW8.out); clear hv8 hb8 PA VA HB3 HR HB2 hxa hfa HO HB) | (go_at_call 61; (with_reducible refine (natural_compare.calls k Ap cp p1 A0 c0 l0 cc _ (Kd.V_reads' HV8.out).2.2 (Kd.V_reads' HV8.out).2.1 (Kd.C_below HR0.out HB8.out) HC0.out HCC.out).mono ?_); rintro e w9 ⟨rfl, hd9⟩; have HB9 := Aside0.mk (below_step HB8.out hd9.below); have HO9 := Aside0.mk (Kd.V_below HO8.out hd9.below); have VA9 := Aside0.mk (Kd.V_below VA8.out hd9.below); clear hd9))
                all_goals
                  go_roundg b
                  case measure => omega
                  case rel => exact ⟨o, congrArg (Value.int .i64) (by have h_ := HBB.out; unfold wrap64; omega), HN, ⟨by have := HBB.out; omega⟩, ⟨by (with_reducible repeat (first | apply Kd.V_drewN | apply Kd.V_drew)); exact HO9.out⟩, ⟨by repeat (first | exact HB9.out | apply pw_below_drewN | apply below_drew1)⟩⟩
            · rw [if_neg cp2] at h
              have HN := Aside0.mk h
              have g1 : (p2 == 0) = false := beq_eq_false_iff_ne.2 cp2
              have g2 : (p2 = 0) = False := eq_false cp2
              clear h cp2 H
              go_wp2_with (first | ((with_reducible refine gate_dst (N := 33) rfl ?_); refine Kd.R_make (Kd.int .u64) _ 29 rfl (N := 33) rfl 22 _ _ rfl (if (o.length : Int) < qi then qi else (o.length : Int)) rfl rfl Try.underlying22 (.int .u64 0) 8 info29 rfl (by decide) (by omega) 0 (ok := fun _ => True) (okp := fun _ => True) rfl (fun _ hk => hk) trivial HZ0.out ?aN HW.out (Nat.le_refl _) ?_; (case aN => have h1_ := HM.out; have h4_ := HZ.out; omega); intro v1 w1 ho1 hb1 hg_ hnew_; clear hg_ hnew_; rw [HZ.out] at ho1; have ho1 := Aside0.mk ho1; have hb1 := Aside0.mk hb1) | ((with_reducible refine gate_builtin (b := .copy) (xs := #[.tmp 34, .tmp 35]) rfl ?_); refine Kd.R_copy (enc := Value.int .u64) (h1 := fun _ => rfl) (0 : Int) (w0 := wr) wr.heap.size rfl (.tmp 34) (.tmp 35) 22 22 29 rfl Try.underlying22 (by kernel_rfl) v1 (List.replicate m 0) o Ao o.length _ (fun _ => True) rfl rfl ho1.out (Kd.C_below (Kd.V_reads' HO.out).2.2 hb1.out) hb1.out hb1.out.size ?_; intro w2 hR_ hB_ _; rw [List.length_replicate, Nat.min_eq_left HOM.out, List.take_length, List.drop_replicate, HXX.out] at hR_; obtain ⟨g, cap, eg, hgb, _, _⟩ := Kd.R_form hR_ (by have h1_ := HXL.out; have h2_ := HQM.out; omega); subst eg; have HR := Aside0.mk hR_; have HB2 := Aside0.mk hB_; have GE := Aside0.mk hgb; obtain ⟨hxa, hfa⟩ := Kd.R_celln 0 hR_ (q : Int) (by omega) (by have h1_ := HXL.out; have h2_ := HQM.out; omega); rw [show rdOf 0 x (q : Int) = rd x (q : Int) from rfl, Int.toNat_natCast] at hxa; rw [Int.toNat_natCast] at hfa; have c5 : ((q : Int) < (x.length : Int)) = True := eq_true (by have h1_ := HXL.out; have h2_ := HQM.out; omega); have c6 : (q < x.length) = True := eq_true (by have h1_ := HXL.out; have h2_ := HQM.out; omega); have c7 : (0 ≤ (q : Int)) = True := eq_true (by omega); clear hR_ hB_ hgb ho1 hb1) | (go_at_call 54; have PA := Aside0.mk (Kd.R_putn HR.out (q : Int) (Go.bits .or .u64 (rd x (q : Int)) (IntKind.u64.wrap ((2 : Int) ^ r)))); rw [Int.toNat_natCast, ← HY.out] at PA; have VA := Aside0.mk (hk_V_ge (b0 := w.heap.size) PA.out (show w.heap.size ≤ wr.heap.size from HB.out.size)); have HYL := Aside0.mk (Kd.V_at VA.out).1; have HB3 := Aside0.mk (below_set HB2.out GE.out (j := q) (v := .int .u64 (Go.bits .or .u64 (rd x (q : Int)) (IntKind.u64.wrap ((2 : Int) ^ r))))); (with_reducible refine (hk_times_at2 k (fun k_ => (w.heap.size ≤ k_)) (some ⟨g, 0, none⟩) cap x.length (hk_try o b) p1 p2 _ HYL.out ?s0 HP.out).mono ?_); (case s0 => exact Kd.V_map VA.out (fun _ hf => hf)); rintro e w8 ⟨v8, rfl, hv8, hb8⟩; obtain ⟨Ap, cp, ep⟩ := Kd.V_slice hv8; subst ep; have HV8 := Aside0.mk hv8; have VA8 := Aside0.mk (Kd.V_below VA.out hb8); have HW8 := Aside0.mk (below_step HB3.out hb8); have HO8 := Aside0.mk (Kd.V_below HO.out HW8.out); have HB8 := Aside0.mk (below_step HB.out HW8.out); clear hv8 hb8 PA VA HB3 HR HB2 hxa hfa HO HB))
              all_goals
                go_roundg b
                case measure => omega
                case rel => exact ⟨o, congrArg (Value.int .i64) (by have h_ := HBB.out; unfold wrap64; omega), HN, ⟨by have := HBB.out; omega⟩, ⟨by (with_reducible repeat (first | apply Kd.V_drewN | apply Kd.V_drew)); exact HO8.out⟩, ⟨by repeat (first | exact HB8.out | apply pw_below_drewN | apply below_drew1)⟩⟩
          · rw [if_neg hlim] at h; cases h
  · rw [if_neg hg] at h
    simp only [Option.some.injEq, Prod.mk.injEq] at h
    obtain ⟨rfl, rfl, rfl⟩ := h
    have HG := Aside0.mk (show natural_Good.f l0 = some false by unfold natural_Good.f; rw [Bool.not_eq_true] at hg; rw [hg])
    clear hg
    go_enter Try.func32, Try.ntmps32
    go_wp2_with ((go_at_call 55; (with_reducible refine (natural_Good.calls A0 c0 l0 false _ HR0.out HC0.out HG.out).mono ?_); rintro e w1 ⟨rfl, hd1⟩; have HB1 := Aside0.mk hd1.below; clear hd1))
    go_ret3
    exact ⟨_, _, rfl, Kd.V_nil _ _ _ _ _, Kd.V_nil _ _ _ _ _, by repeat (first | exact HB1.out | apply pw_below_drewN | apply below_drew1)⟩

/-! ### abacistref31_Less: function 34 -/
def abacistref31_Less.l0 : Nat → List Int → List Int → Int → Option (Bool)
  | 0, _, _, _ => none
  | k + 1, x0, x1, x5 => if x5 ≥ 0 then (if 0 ≤ x5 then (if x5 < (x0.length : Int) then (if x5 < (x1.length : Int) then (if (rd x0 x5) = (rd x1 x5) then (abacistref31_Less.l0 k x0 x1 (wrap64 (x5 - 1))) else (some (decide ((rd x0 x5) < (rd x1 x5))))) else (none)) else (none)) else (none)) else (some false)
def abacistref31_Less.f (k : Nat) (l0 : List Int) (l1 : List Int) : Option (Bool) := if (l0.length : Int) = (l1.length : Int) then (abacistref31_Less.l0 k l0 l1 (wrap64 ((l0.length : Int) - 1))) else (some (decide ((l0.length : Int) < (l1.length : Int))))
theorem abacistref31_Less.mono_l : ∀ k, (∀ y0 y1 y2, LeO (abacistref31_Less.l0 k y0 y1 y2) (abacistref31_Less.l0 (k + 1) y0 y1 y2))
  | 0 => fun _ _ _ r h => by simp [abacistref31_Less.l0] at h
  | k + 1 => by
    have ih0 := abacistref31_Less.mono_l k
    · intro y0 y1 y2
      unfold abacistref31_Less.l0
      repeat' first
      | (with_reducible exact ih0 _ _ _)
      | (with_reducible exact LeO.refl _)
      | (with_reducible exact LeO.none _)
      | (with_reducible refine LeO.ite ?_ ?_)
      | (with_reducible refine LeO.bind ?_ (fun _ => ?_))
      | exact ih0 _ _ _
      | exact LeO.none _
      | refine LeO.ite ?_ ?_
      | refine LeO.bind ?_ (fun _ => ?_)
theorem abacistref31_Less.mono : ∀ a0 a1 k, LeO (abacistref31_Less.f k a0 a1) (abacistref31_Less.f (k + 1) a0 a1) := by
  intro a0 a1 k
  have ih0 := abacistref31_Less.mono_l k
  unfold abacistref31_Less.f
  repeat' first
      | (with_reducible exact ih0 _ _ _)
      | (with_reducible exact LeO.refl _)
      | (with_reducible exact LeO.none _)
      | (with_reducible refine LeO.ite ?_ ?_)
      | (with_reducible refine LeO.bind ?_ (fun _ => ?_))
      | exact ih0 _ _ _
      | exact LeO.none _
      | refine LeO.ite ?_ ?_
      | refine LeO.bind ?_ (fun _ => ?_)
set_option maxHeartbeats 8000000 in
set_option maxRecDepth 100000 in
theorem abacistref31_Less.calls (k : Nat) (A0 : Option Addr) (c0 : Nat) (l0 : List Int) (A1 : Option Addr) (c1 : Nat) (l1 : List Int) (r : Bool) (w : World) (hr0 : Kd.C (Kd.int .u64) w A0 l0.length l0) (hc0 : l0.length ≤ c0) (hr1 : Kd.C (Kd.int .u64) w A1 l1.length l1) (hc1 : l1.length ≤ c1) (h : abacistref31_Less.f k l0 l1 = some r) :
    Calls Try.prog 34 #[.slice A0 l0.length c0, .slice A1 l1.length c1] w fun e w' => e = .returned (.bool r) ∧ Drawn0 w w' := by
  have HR0 := Aside0.mk hr0
  have HC0 := Aside0.mk hc0
  clear hr0 hc0
  have HR1 := Aside0.mk hr1
  have HC1 := Aside0.mk hc1
  clear hr1 hc1
  have H : (if (l0.length : Int) = (l1.length : Int) then (abacistref31_Less.l0 k l0 l1 (wrap64 ((l0.length : Int) - 1))) else (some (decide ((l0.length : Int) < (l1.length : Int))))) = some r := h
  clear h
  by_cases c3 : (l0.length : Int) = (l1.length : Int)
  · rw [if_pos c3] at H
    have c3b0 : ((l0.length : Int) == (l1.length : Int)) = true := beq_iff_eq.mpr c3
    have c3b1 : ((l0.length : Int) != (l1.length : Int)) = false := bne_eq_false_iff_eq.mpr c3
    have c3b2 : (l0.length == l1.length) = true := by first | simpa using c3 | (simp at c3 ⊢; omega)
    clear c3
    have H' := Aside0.mk H
    clear H
    go_enter Try.func34, Try.ntmps34
    go_wp2
    repeat (go_quiet (fail); try go_wp2)
    go_loopg [5] k (fun kq v5 w' => ∃ (x5_1 : Int), v5 = .int .i64 x5_1 ∧ Aside0 (abacistref31_Less.l0 kq l0 l1 x5_1 = some r) ∧ Aside0 (kq ≤ k) ∧ Drawn0 w w')
    case atStart => exact ⟨(wrap64 ((l0.length : Int) - 1)), (by first | rfl | (simp; done) | (simp [*]; done)), H', ⟨Nat.le_refl _⟩, by repeat (first | exact Drawn0.refl _ | apply Drawn0.step)⟩
    case round =>
      clear H'
      try clear c1
      try clear p2
      try clear c3
      try clear c3b0
      try clear c3b1
      try clear c3b2
      obtain ⟨x5_1, rfl, HA, HK1, ⟨m1, rfl⟩⟩ := hrel
      cases gk with
      | zero => exact absurd HA.out (by simp [abacistref31_Less.l0])
      | succ k1 =>
        have H := HA.out
        clear HA
        simp only [abacistref31_Less.l0] at H
        by_cases c4 : x5_1 ≥ 0
        · rw [if_pos c4] at H
          have c4b0 : decide (0 ≤ x5_1) = true := decide_eq_true c4
          clear c4
          by_cases c5 : 0 ≤ x5_1
          · rw [if_pos c5] at H
            have c5b0 : decide (0 ≤ x5_1) = true := decide_eq_true c5
            clear c5
            by_cases c6 : x5_1 < (l0.length : Int)
            · rw [if_pos c6] at H
              have c6b0 : decide (x5_1 < (l0.length : Int)) = true := decide_eq_true c6
              clear c6
              by_cases c7 : x5_1 < (l1.length : Int)
              · rw [if_pos c7] at H
                have c7b0 : decide (x5_1 < (l1.length : Int)) = true := decide_eq_true c7
                clear c7
                by_cases c8 : (rd l0 x5_1) = (rd l1 x5_1)
                · rw [if_pos c8] at H
                  have c8b0 : ((rd l0 x5_1) == (rd l1 x5_1)) = true := beq_iff_eq.mpr c8
                  have c8b1 : ((rd l0 x5_1) != (rd l1 x5_1)) = false := bne_eq_false_iff_eq.mpr c8
                  clear c8
                  have H' := Aside0.mk H
                  clear H
                  have p353 : 0 ≤ (x5_1 : Int) := of_decide_eq_true (by first | (with_reducible assumption) | assumption)
                  have q353 : x5_1 < (l0.length : Int) := of_decide_eq_true (by first | (with_reducible assumption) | assumption)
                  obtain ⟨ad353, e353, hx353_0⟩ := Kd.at_int HR0.out x5_1 p353 q353
                  cases e353
                  replace p353 := eq_true p353
                  replace q353 := eq_true q353
                  have p354 : 0 ≤ (x5_1 : Int) := of_decide_eq_true (by first | (with_reducible assumption) | assumption)
                  have q354 : x5_1 < (l1.length : Int) := of_decide_eq_true (by first | (with_reducible assumption) | assumption)
                  obtain ⟨ad354, e354, hx354_0⟩ := Kd.at_int HR1.out x5_1 p354 q354
                  cases e354
                  replace p354 := eq_true p354
                  replace q354 := eq_true q354
                  go_wp2
                  repeat (go_quiet (fail); try go_wp2)
                  (first | go_roundg k1 | (simp only [add_plain] at *; go_roundg k1))
                  case measure => have := HK1.out; omega
                  case rel => exact ⟨(wrap64 (x5_1 - 1)), (by first | rfl | (simp; done) | (simp [*]; done)), H', ⟨by have := HK1.out; omega⟩, by repeat (first | exact Drawn0.refl _ | apply Drawn0.step)⟩
                · rw [if_neg c8] at H
                  have c8b0 : ((rd l0 x5_1) == (rd l1 x5_1)) = false := beq_eq_false_iff_ne.mpr c8
                  have c8b1 : ((rd l0 x5_1) != (rd l1 x5_1)) = true := bne_iff_ne.mpr c8
                  obtain rfl := Option.some.inj H
                  have p353 : 0 ≤ (x5_1 : Int) := of_decide_eq_true (by first | (with_reducible assumption) | assumption)
                  have q353 : x5_1 < (l0.length : Int) := of_decide_eq_true (by first | (with_reducible assumption) | assumption)
                  obtain ⟨ad353, e353, hx353_0⟩ := Kd.at_int HR0.out x5_1 p353 q353
                  cases e353
                  replace p353 := eq_true p353
                  replace q353 := eq_true q353
                  have p354 : 0 ≤ (x5_1 : Int) := of_decide_eq_true (by first | (with_reducible assumption) | assumption)
                  have q354 : x5_1 < (l1.length : Int) := of_decide_eq_true (by first | (with_reducible assumption) | assumption)
                  obtain ⟨ad354, e354, hx354_0⟩ := Kd.at_int HR1.out x5_1 p354 q354
                  cases e354
                  replace p354 := eq_true p354
                  replace q354 := eq_true q354
                  have p355 : 0 ≤ (x5_1 : Int) := of_decide_eq_true (by first | (with_reducible assumption) | assumption)
                  have q355 : x5_1 < (l0.length : Int) := of_decide_eq_true (by first | (with_reducible assumption) | assumption)
                  obtain ⟨ad355, e355, hx355_0⟩ := Kd.at_int HR0.out x5_1 p355 q355
                  obtain rfl : ad353 = ad355 := (by injection e355)
                  replace p355 := eq_true p355
                  replace q355 := eq_true q355
                  have p356 : 0 ≤ (x5_1 : Int) := of_decide_eq_true (by first | (with_reducible assumption) | assumption)
                  have q356 : x5_1 < (l1.length : Int) := of_decide_eq_true (by first | (with_reducible assumption) | assumption)
                  obtain ⟨ad356, e356, hx356_0⟩ := Kd.at_int HR1.out x5_1 p356 q356
                  obtain rfl : ad354 = ad356 := (by injection e356)
                  replace p356 := eq_true p356
                  replace q356 := eq_true q356
                  go_wp2
                  repeat (go_quiet (fail); try go_wp2)
                  go_ret
                  exact ⟨by first | rfl | (simp; done) | (simp [*]; done), by repeat (first | exact Drawn0.refl _ | apply Drawn0.step)⟩
              · rw [if_neg c7] at H
                exact absurd H (by simp)
            · rw [if_neg c6] at H
              exact absurd H (by simp)
          · rw [if_neg c5] at H
            exact absurd H (by simp)
        · rw [if_neg c4] at H
          have c4b0 : decide (0 ≤ x5_1) = false := decide_eq_false c4
          clear c4
          obtain rfl := Option.some.inj H
          go_wp2
          repeat (go_quiet (fail); try go_wp2)
          go_ret
          exact ⟨by first | rfl | (simp; done) | (simp [*]; done), by repeat (first | exact Drawn0.refl _ | apply Drawn0.step)⟩
  · rw [if_neg c3] at H
    have c3b0 : ((l0.length : Int) == (l1.length : Int)) = false := beq_eq_false_iff_ne.mpr c3
    have c3b1 : ((l0.length : Int) != (l1.length : Int)) = true := bne_iff_ne.mpr c3
    have c3b2 : (l0.length == l1.length) = false := by first | simpa using c3 | (simp at c3 ⊢; omega)
    obtain rfl := Option.some.inj H
    go_enter Try.func34, Try.ntmps34
    go_wp2
    repeat (go_quiet (fail); try go_wp2)
    go_ret
    exact ⟨by first | rfl | (simp; done) | (simp [*]; done), by repeat (first | exact Drawn0.refl _ | apply Drawn0.step)⟩

end Go.Proofs.Ytaiahgnkgbfcfaa.PNaturalDivides
