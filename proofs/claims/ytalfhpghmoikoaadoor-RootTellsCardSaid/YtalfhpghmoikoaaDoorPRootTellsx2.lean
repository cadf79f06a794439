-- Written for this claim by wip/gen/mk.sh, this session's own driver over the kit's print
import Derived.Test.YtalfhpghmoikoaaDoorPRootTellsx0
import Derived.Test.YtalfhpghmoikoaaDoorPRootTellsx1
namespace Go.Proofs.YtalfhpghmoikoaaDoor.PRootTells
open Go.RowKit Go.Proofs.YtalfhpghmoikoaaDoorW.PrintWords Go.Proofs.YtalfhpghmoikoaaDoorW.PrintLast Go.Proofs.YtalfhpghmoikoaaDoorW.PrintMore
attribute [local go_sem] max2_int min2_int max_two min_two max_three min_three max_four min_four   -- for this text's walks alone
set_option linter.unusedVariables false
set_option linter.unusedSimpArgs false

/-! ### abacistref02_Mul: function 10 -/
def abacistref02_Mul.l0 : Nat → Int → Int → Int → Option (Int)
  | 0, _, _, _ => none
  | k + 1, x0, x1, x5 => if x1 > 0 then (if (Int.tmod x1 2) = 1 then ((abacistref02_Add.f x5 x0).bind fun t133 => ((abacistref02_Add.f x0 x0).bind fun t134 => (abacistref02_Mul.l0 k t134 (IntKind.u64.wrap (Int.tdiv x1 2)) t133))) else ((abacistref02_Add.f x0 x0).bind fun t135 => (abacistref02_Mul.l0 k t135 (IntKind.u64.wrap (Int.tdiv x1 2)) x5))) else (some x5)
def abacistref02_Mul.f (k : Nat) (a0 : Int) (a1 : Int) : Option (Int) := (abacistref02_Of.f a0).bind fun t132 => (abacistref02_Mul.l0 k t132 a1 0)
theorem abacistref02_Mul.mono_l : ∀ k, (∀ y0 y1 y2, LeO (abacistref02_Mul.l0 k y0 y1 y2) (abacistref02_Mul.l0 (k + 1) y0 y1 y2))
  | 0 => fun _ _ _ r h => by simp [abacistref02_Mul.l0] at h
  | k + 1 => by
    have ih0 := abacistref02_Mul.mono_l k
    · intro y0 y1 y2
      unfold abacistref02_Mul.l0
      repeat' first
      | (with_reducible exact ih0 _ _ _)
      | (with_reducible exact LeO.refl _)
      | (with_reducible exact LeO.none _)
      | (with_reducible refine LeO.ite ?_ ?_)
      | (with_reducible refine LeO.bind ?_ (fun _ => ?_))
      | exact ih0 _ _ _
      | exact LeO.none _
      | refine LeO.ite ?_ ?_
      | refine LeO.bind ?_ (fun _ => ?_)
theorem abacistref02_Mul.mono : ∀ a0 a1 k, LeO (abacistref02_Mul.f k a0 a1) (abacistref02_Mul.f (k + 1) a0 a1) := by
  intro a0 a1 k
  have ih0 := abacistref02_Mul.mono_l k
  unfold abacistref02_Mul.f
  repeat' first
      | (with_reducible exact ih0 _ _ _)
      | (with_reducible exact LeO.refl _)
      | (with_reducible exact LeO.none _)
      | (with_reducible refine LeO.ite ?_ ?_)
      | (with_reducible refine LeO.bind ?_ (fun _ => ?_))
      | exact ih0 _ _ _
      | exact LeO.none _
      | refine LeO.ite ?_ ?_
      | refine LeO.bind ?_ (fun _ => ?_)
set_option maxHeartbeats 8000000 in
set_option maxRecDepth 100000 in
theorem abacistref02_Mul.calls (k : Nat) (a0 : Int) (a1 : Int) (r : Int) (w : World) (h : abacistref02_Mul.f k a0 a1 = some r) :
    Calls Tryd.prog 10 #[.int .u64 a0, .int .u64 a1] w fun e w' => e = .returned (.int .u64 r) ∧ Drawn0 w w' := by
  have H : ((abacistref02_Of.f a0).bind fun t132 => (abacistref02_Mul.l0 k t132 a1 0)) = some r := h
  clear h
  replace H := Option.bind_eq_some_iff.mp H
  obtain ⟨t132, A30, H⟩ := H
  replace H : (abacistref02_Mul.l0 k t132 a1 0) = some r := H
  have A3 := Aside0.mk A30
  clear A30
  have H' := Aside0.mk H
  clear H
  go_enter Tryd.func10, Tryd.ntmps10
  go_wp2_with (first | ((with_reducible refine gate_callee (f := 16) rfl ?_); refine goesL_ (some 7) rfl rfl Tryd.func16 (by kernel_rfl) rfl #[.int .u64 a0] rfl (by (try simp only [List.map_toArray, List.map_cons, List.map_nil]); first | done | rfl | (simp only [List.length_drop, List.length_take]; rfl)) ?_; (with_reducible refine (abacistref02_Of.calls a0 t132 _ A3.out).mono ?_); rintro e w' ⟨rfl, ⟨nd, rfl⟩⟩; refine ⟨_, rfl, ?_⟩))
  go_loopg [0, 1, 5] k (fun kq v0 v1 v5 w' => ∃ (x0_1 : Int) (x1_1 : Int) (x5_1 : Int), v0 = .int .u64 x0_1 ∧ v1 = .int .u64 x1_1 ∧ v5 = .int .u64 x5_1 ∧ Aside0 (abacistref02_Mul.l0 kq x0_1 x1_1 x5_1 = some r) ∧ Aside0 (kq ≤ k) ∧ Drawn0 w w')
  case atStart => exact ⟨(t132), (a1), (0), (by first | rfl | (simp; done) | (simp [*]; done)), (by first | rfl | (simp; done) | (simp [*]; done)), (by first | rfl | (simp; done) | (simp [*]; done)), H', ⟨Nat.le_refl _⟩, by repeat (first | exact Drawn0.refl _ | apply Drawn0.step)⟩
  case round =>
    clear H'
    try clear c1
    try clear p2
    obtain ⟨x0_1, x1_1, x5_1, rfl, rfl, rfl, HA, HK1, ⟨m1, rfl⟩⟩ := hrel
    cases gk with
    | zero => exact absurd HA.out (by simp [abacistref02_Mul.l0])
    | succ k1 =>
      have H := HA.out
      clear HA
      simp only [abacistref02_Mul.l0] at H
      by_cases c4 : x1_1 > 0
      · rw [if_pos c4] at H
        have c4b0 : decide (0 < x1_1) = true := decide_eq_true c4
        clear c4
        by_cases c5 : (Int.tmod x1_1 2) = 1
        · rw [if_pos c5] at H
          have c5b0 : ((Int.tmod x1_1 2) == 1) = true := beq_iff_eq.mpr c5
          have c5b1 : ((Int.tmod x1_1 2) != 1) = false := bne_eq_false_iff_eq.mpr c5
          clear c5
          replace H := Option.bind_eq_some_iff.mp H
          obtain ⟨t133, A60, H⟩ := H
          replace H : ((abacistref02_Add.f x0_1 x0_1).bind fun t134 => (abacistref02_Mul.l0 k1 t134 (IntKind.u64.wrap (Int.tdiv x1_1 2)) t133)) = some r := H
          have A6 := Aside0.mk A60
          clear A60
          replace H := Option.bind_eq_some_iff.mp H
          obtain ⟨t134, A70, H⟩ := H
          replace H : (abacistref02_Mul.l0 k1 t134 (IntKind.u64.wrap (Int.tdiv x1_1 2)) t133) = some r := H
          have A7 := Aside0.mk A70
          clear A70
          have H' := Aside0.mk H
          clear H
          go_wp2_with (first | ((with_reducible refine gate_callee (f := 17) rfl ?_); refine goesL_ (some 15) rfl rfl Tryd.func17 (by kernel_rfl) rfl #[.int .u64 x5_1, .int .u64 x0_1] rfl (by (try simp only [List.map_toArray, List.map_cons, List.map_nil]); first | done | rfl | (simp only [List.length_drop, List.length_take]; rfl)) ?_; (with_reducible refine (abacistref02_Add.calls x5_1 x0_1 t133 _ A6.out).mono ?_); rintro e w' ⟨rfl, ⟨nd, rfl⟩⟩; refine ⟨_, rfl, ?_⟩) | ((with_reducible refine gate_callee (f := 17) rfl ?_); refine goesL_ (some 18) rfl rfl Tryd.func17 (by kernel_rfl) rfl #[.int .u64 x0_1, .int .u64 x0_1] rfl (by (try simp only [List.map_toArray, List.map_cons, List.map_nil]); first | done | rfl | (simp only [List.length_drop, List.length_take]; rfl)) ?_; (with_reducible refine (abacistref02_Add.calls x0_1 x0_1 t134 _ A7.out).mono ?_); rintro e w' ⟨rfl, ⟨nd, rfl⟩⟩; refine ⟨_, rfl, ?_⟩))
          (first | go_roundg k1 | (simp only [add_plain] at *; go_roundg k1))
          case measure => have := HK1.out; omega
          case rel => exact ⟨(t134), (IntKind.u64.wrap (Int.tdiv x1_1 2)), (t133), (by first | rfl | (simp; done) | (simp [*]; done)), (by first | rfl | (simp; done) | (simp [*]; done)), (by first | rfl | (simp; done) | (simp [*]; done)), H', ⟨by have := HK1.out; omega⟩, by repeat (first | exact Drawn0.refl _ | apply Drawn0.step)⟩
        · rw [if_neg c5] at H
          have c5b0 : ((Int.tmod x1_1 2) == 1) = false := beq_eq_false_iff_ne.mpr c5
          have c5b1 : ((Int.tmod x1_1 2) != 1) = true := bne_iff_ne.mpr c5
          replace H := Option.bind_eq_some_iff.mp H
          obtain ⟨t135, A80, H⟩ := H
          replace H : (abacistref02_Mul.l0 k1 t135 (IntKind.u64.wrap (Int.tdiv x1_1 2)) x5_1) = some r := H
          have A8 := Aside0.mk A80
          clear A80
          have H' := Aside0.mk H
          clear H
          go_wp2_with (first | ((with_reducible refine gate_callee (f := 17) rfl ?_); refine goesL_ (some 18) rfl rfl Tryd.func17 (by kernel_rfl) rfl #[.int .u64 x0_1, .int .u64 x0_1] rfl (by (try simp only [List.map_toArray, List.map_cons, List.map_nil]); first | done | rfl | (simp only [List.length_drop, List.length_take]; rfl)) ?_; (with_reducible refine (abacistref02_Add.calls x0_1 x0_1 t135 _ A8.out).mono ?_); rintro e w' ⟨rfl, ⟨nd, rfl⟩⟩; refine ⟨_, rfl, ?_⟩))
          (first | go_roundg k1 | (simp only [add_plain] at *; go_roundg k1))
          case measure => have := HK1.out; omega
          case rel => exact ⟨(t135), (IntKind.u64.wrap (Int.tdiv x1_1 2)), (x5_1), (by first | rfl | (simp; done) | (simp [*]; done)), (by first | rfl | (simp; done) | (simp [*]; done)), (by first | rfl | (simp; done) | (simp [*]; done)), H', ⟨by have := HK1.out; omega⟩, by repeat (first | exact Drawn0.refl _ | apply Drawn0.step)⟩
      · rw [if_neg c4] at H
        have c4b0 : decide (0 < x1_1) = false := decide_eq_false c4
        clear c4
        obtain rfl := Option.some.inj H
        go_wp2
        go_ret
        exact ⟨by first | rfl | (simp; done) | (simp [*]; done), by repeat (first | exact Drawn0.refl _ | apply Drawn0.step)⟩

/-! ### abacistref02_Pow: function 15 -/
def abacistref02_Pow.l0 : Nat → Int → Int → Int → Option (Int)
  | 0, _, _, _ => none
  | k + 1, x0, x1, x5 => if x1 > 0 then (if (Int.tmod x1 2) = 1 then ((abacistref02_Mul.f k x5 x0).bind fun t137 => ((abacistref02_Mul.f k x0 x0).bind fun t138 => (abacistref02_Pow.l0 k t138 (IntKind.u64.wrap (Int.tdiv x1 2)) t137))) else ((abacistref02_Mul.f k x0 x0).bind fun t139 => (abacistref02_Pow.l0 k t139 (IntKind.u64.wrap (Int.tdiv x1 2)) x5))) else (some x5)
def abacistref02_Pow.f (k : Nat) (a0 : Int) (a1 : Int) : Option (Int) := (abacistref02_Of.f a0).bind fun t136 => (abacistref02_Pow.l0 k t136 a1 1)
theorem abacistref02_Pow.mono_l : ∀ k, (∀ y0 y1 y2, LeO (abacistref02_Pow.l0 k y0 y1 y2) (abacistref02_Pow.l0 (k + 1) y0 y1 y2))
  | 0 => fun _ _ _ r h => by simp [abacistref02_Pow.l0] at h
  | k + 1 => by
    have ih0 := abacistref02_Pow.mono_l k
    · intro y0 y1 y2
      unfold abacistref02_Pow.l0
      repeat' first
      | (with_reducible exact ih0 _ _ _)
      | (with_reducible exact abacistref02_Mul.mono _ _ _)
      | (with_reducible exact LeO.refl _)
      | (with_reducible exact LeO.none _)
      | (with_reducible refine LeO.ite ?_ ?_)
      | (with_reducible refine LeO.bind ?_ (fun _ => ?_))
      | exact ih0 _ _ _
      | exact abacistref02_Mul.mono _ _ _
      | exact LeO.none _
      | refine LeO.ite ?_ ?_
      | refine LeO.bind ?_ (fun _ => ?_)
theorem abacistref02_Pow.mono : ∀ a0 a1 k, LeO (abacistref02_Pow.f k a0 a1) (abacistref02_Pow.f (k + 1) a0 a1) := by
  intro a0 a1 k
  have ih0 := abacistref02_Pow.mono_l k
  unfold abacistref02_Pow.f
  repeat' first
      | (with_reducible exact ih0 _ _ _)
      | (with_reducible exact abacistref02_Mul.mono _ _ _)
      | (with_reducible exact LeO.refl _)
      | (with_reducible exact LeO.none _)
      | (with_reducible refine LeO.ite ?_ ?_)
      | (with_reducible refine LeO.bind ?_ (fun _ => ?_))
      | exact ih0 _ _ _
      | exact abacistref02_Mul.mono _ _ _
      | exact LeO.none _
      | refine LeO.ite ?_ ?_
      | refine LeO.bind ?_ (fun _ => ?_)
set_option maxHeartbeats 8000000 in
set_option maxRecDepth 100000 in
theorem abacistref02_Pow.calls (k : Nat) (a0 : Int) (a1 : Int) (r : Int) (w : World) (h : abacistref02_Pow.f k a0 a1 = some r) :
    Calls Tryd.prog 15 #[.int .u64 a0, .int .u64 a1] w fun e w' => e = .returned (.int .u64 r) ∧ Drawn0 w w' := by
  have H : ((abacistref02_Of.f a0).bind fun t136 => (abacistref02_Pow.l0 k t136 a1 1)) = some r := h
  clear h
  replace H := Option.bind_eq_some_iff.mp H
  obtain ⟨t136, A30, H⟩ := H
  replace H : (abacistref02_Pow.l0 k t136 a1 1) = some r := H
  have A3 := Aside0.mk A30
  clear A30
  have H' := Aside0.mk H
  clear H
  go_enter Tryd.func15, Tryd.ntmps15
  go_wp2_with (first | ((with_reducible refine gate_callee (f := 16) rfl ?_); refine goesL_ (some 7) rfl rfl Tryd.func16 (by kernel_rfl) rfl #[.int .u64 a0] rfl (by (try simp only [List.map_toArray, List.map_cons, List.map_nil]); first | done | rfl | (simp only [List.length_drop, List.length_take]; rfl)) ?_; (with_reducible refine (abacistref02_Of.calls a0 t136 _ A3.out).mono ?_); rintro e w' ⟨rfl, ⟨nd, rfl⟩⟩; refine ⟨_, rfl, ?_⟩))
  go_loopg [0, 1, 5] k (fun kq v0 v1 v5 w' => ∃ (x0_1 : Int) (x1_1 : Int) (x5_1 : Int), v0 = .int .u64 x0_1 ∧ v1 = .int .u64 x1_1 ∧ v5 = .int .u64 x5_1 ∧ Aside0 (abacistref02_Pow.l0 kq x0_1 x1_1 x5_1 = some r) ∧ Aside0 (kq ≤ k) ∧ Drawn0 w w')
  case atStart => exact ⟨(t136), (a1), (1), (by first | rfl | (simp; done) | (simp [*]; done)), (by first | rfl | (simp; done) | (simp [*]; done)), (by first | rfl | (simp; done) | (simp [*]; done)), H', ⟨Nat.le_refl _⟩, by repeat (first | exact Drawn0.refl _ | apply Drawn0.step)⟩
  case round =>
    clear H'
    try clear c1
    try clear p2
    obtain ⟨x0_1, x1_1, x5_1, rfl, rfl, rfl, HA, HK1, ⟨m1, rfl⟩⟩ := hrel
    cases gk with
    | zero => exact absurd HA.out (by simp [abacistref02_Pow.l0])
    | succ k1 =>
      have H := HA.out
      clear HA
      simp only [abacistref02_Pow.l0] at H
      by_cases c4 : x1_1 > 0
      · rw [if_pos c4] at H
        have c4b0 : decide (0 < x1_1) = true := decide_eq_true c4
        clear c4
        by_cases c5 : (Int.tmod x1_1 2) = 1
        · rw [if_pos c5] at H
          have c5b0 : ((Int.tmod x1_1 2) == 1) = true := beq_iff_eq.mpr c5
          have c5b1 : ((Int.tmod x1_1 2) != 1) = false := bne_eq_false_iff_eq.mpr c5
          clear c5
          replace H := Option.bind_eq_some_iff.mp H
          obtain ⟨t137, A60, H⟩ := H
          replace H : ((abacistref02_Mul.f k1 x0_1 x0_1).bind fun t138 => (abacistref02_Pow.l0 k1 t138 (IntKind.u64.wrap (Int.tdiv x1_1 2)) t137)) = some r := H
          have A6 := Aside0.mk A60
          clear A60
          replace H := Option.bind_eq_some_iff.mp H
          obtain ⟨t138, A70, H⟩ := H
          replace H : (abacistref02_Pow.l0 k1 t138 (IntKind.u64.wrap (Int.tdiv x1_1 2)) t137) = some r := H
          have A7 := Aside0.mk A70
          clear A70
          have H' := Aside0.mk H
          clear H
          go_wp2_with (first | ((with_reducible refine gate_callee (f := 10) rfl ?_); refine goesL_ (some 15) rfl rfl Tryd.func10 (by kernel_rfl) rfl #[.int .u64 x5_1, .int .u64 x0_1] rfl (by (try simp only [List.map_toArray, List.map_cons, List.map_nil]); first | done | rfl | (simp only [List.length_drop, List.length_take]; rfl)) ?_; (with_reducible refine (abacistref02_Mul.calls k1 x5_1 x0_1 t137 _ A6.out).mono ?_); rintro e w' ⟨rfl, ⟨nd, rfl⟩⟩; refine ⟨_, rfl, ?_⟩) | ((with_reducible refine gate_callee (f := 10) rfl ?_); refine goesL_ (some 18) rfl rfl Tryd.func10 (by kernel_rfl) rfl #[.int .u64 x0_1, .int .u64 x0_1] rfl (by (try simp only [List.map_toArray, List.map_cons, List.map_nil]); first | done | rfl | (simp only [List.length_drop, List.length_take]; rfl)) ?_; (with_reducible refine (abacistref02_Mul.calls k1 x0_1 x0_1 t138 _ A7.out).mono ?_); rintro e w' ⟨rfl, ⟨nd, rfl⟩⟩; refine ⟨_, rfl, ?_⟩))
          (first | go_roundg k1 | (simp only [add_plain] at *; go_roundg k1))
          case measure => have := HK1.out; omega
          case rel => exact ⟨(t138), (IntKind.u64.wrap (Int.tdiv x1_1 2)), (t137), (by first | rfl | (simp; done) | (simp [*]; done)), (by first | rfl | (simp; done) | (simp [*]; done)), (by first | rfl | (simp; done) | (simp [*]; done)), H', ⟨by have := HK1.out; omega⟩, by repeat (first | exact Drawn0.refl _ | apply Drawn0.step)⟩
        · rw [if_neg c5] at H
          have c5b0 : ((Int.tmod x1_1 2) == 1) = false := beq_eq_false_iff_ne.mpr c5
          have c5b1 : ((Int.tmod x1_1 2) != 1) = true := bne_iff_ne.mpr c5
          replace H := Option.bind_eq_some_iff.mp H
          obtain ⟨t139, A80, H⟩ := H
          replace H : (abacistref02_Pow.l0 k1 t139 (IntKind.u64.wrap (Int.tdiv x1_1 2)) x5_1) = some r := H
          have A8 := Aside0.mk A80
          clear A80
          have H' := Aside0.mk H
          clear H
          go_wp2_with (first | ((with_reducible refine gate_callee (f := 10) rfl ?_); refine goesL_ (some 18) rfl rfl Tryd.func10 (by kernel_rfl) rfl #[.int .u64 x0_1, .int .u64 x0_1] rfl (by (try simp only [List.map_toArray, List.map_cons, List.map_nil]); first | done | rfl | (simp only [List.length_drop, List.length_take]; rfl)) ?_; (with_reducible refine (abacistref02_Mul.calls k1 x0_1 x0_1 t139 _ A8.out).mono ?_); rintro e w' ⟨rfl, ⟨nd, rfl⟩⟩; refine ⟨_, rfl, ?_⟩))
          (first | go_roundg k1 | (simp only [add_plain] at *; go_roundg k1))
          case measure => have := HK1.out; omega
          case rel => exact ⟨(t139), (IntKind.u64.wrap (Int.tdiv x1_1 2)), (x5_1), (by first | rfl | (simp; done) | (simp [*]; done)), (by first | rfl | (simp; done) | (simp [*]; done)), (by first | rfl | (simp; done) | (simp [*]; done)), H', ⟨by have := HK1.out; omega⟩, by repeat (first | exact Drawn0.refl _ | apply Drawn0.step)⟩
      · rw [if_neg c4] at H
        have c4b0 : decide (0 < x1_1) = false := decide_eq_false c4
        clear c4
        obtain rfl := Option.some.inj H
        go_wp2
        go_ret
        exact ⟨by first | rfl | (simp; done) | (simp [*]; done), by repeat (first | exact Drawn0.refl _ | apply Drawn0.step)⟩

/-! ### abacistref03_Root: function 9 -/
def abacistref03_Root.l0 : Nat → Int → Int → Int → Option (Int)
  | 0, _, _, _ => none
  | k + 1, x0, x3, x4 => if x4 < x0 then (abacistref03_Root.l0 k x0 (IntKind.u64.wrap (Int.tdiv x3 2)) (wrap64 (x4 + 1))) else ((abacistref02_Pow.f k 7 x3).bind fun t140 => (some t140))
def abacistref03_Root.f (k : Nat) (a0 : Int) : Option (Int) := abacistref03_Root.l0 k a0 18446744069414584320 0
theorem abacistref03_Root.mono_l : ∀ k, (∀ y0 y1 y2, LeO (abacistref03_Root.l0 k y0 y1 y2) (abacistref03_Root.l0 (k + 1) y0 y1 y2))
  | 0 => fun _ _ _ r h => by simp [abacistref03_Root.l0] at h
  | k + 1 => by
    have ih0 := abacistref03_Root.mono_l k
    · intro y0 y1 y2
      unfold abacistref03_Root.l0
      repeat' first
      | (with_reducible exact ih0 _ _ _)
      | (with_reducible exact abacistref02_Pow.mono _ _ _)
      | (with_reducible exact LeO.refl _)
      | (with_reducible exact LeO.none _)
      | (with_reducible refine LeO.ite ?_ ?_)
      | (with_reducible refine LeO.bind ?_ (fun _ => ?_))
      | exact ih0 _ _ _
      | exact abacistref02_Pow.mono _ _ _
      | exact LeO.none _
      | refine LeO.ite ?_ ?_
      | refine LeO.bind ?_ (fun _ => ?_)
theorem abacistref03_Root.mono : ∀ a0 k, LeO (abacistref03_Root.f k a0) (abacistref03_Root.f (k + 1) a0) := by
  intro a0 k
  have ih0 := abacistref03_Root.mono_l k
  unfold abacistref03_Root.f
  repeat' first
      | (with_reducible exact ih0 _ _ _)
      | (with_reducible exact abacistref02_Pow.mono _ _ _)
      | (with_reducible exact LeO.refl _)
      | (with_reducible exact LeO.none _)
      | (with_reducible refine LeO.ite ?_ ?_)
      | (with_reducible refine LeO.bind ?_ (fun _ => ?_))
      | exact ih0 _ _ _
      | exact abacistref02_Pow.mono _ _ _
      | exact LeO.none _
      | refine LeO.ite ?_ ?_
      | refine LeO.bind ?_ (fun _ => ?_)
set_option maxHeartbeats 8000000 in
set_option maxRecDepth 100000 in
theorem abacistref03_Root.calls (k : Nat) (a0 : Int) (r : Int) (w : World) (h : abacistref03_Root.f k a0 = some r) :
    Calls Tryd.prog 9 #[.int .i64 a0] w fun e w' => e = .returned (.int .u64 r) ∧ Drawn0 w w' := by
  have H : (abacistref03_Root.l0 k a0 18446744069414584320 0) = some r := h
  clear h
  have H' := Aside0.mk H
  clear H
  go_enter Tryd.func9, Tryd.ntmps9
  go_wp2
  go_loopg [3, 4] k (fun kq v3 v4 w' => ∃ (x3_1 : Int) (x4_1 : Int), v3 = .int .u64 x3_1 ∧ v4 = .int .i64 x4_1 ∧ Aside0 (abacistref03_Root.l0 kq a0 x3_1 x4_1 = some r) ∧ Aside0 (kq ≤ k) ∧ Drawn0 w w')
  case atStart => exact ⟨(18446744069414584320), (0), (by first | rfl | (simp; done) | (simp [*]; done)), (by first | rfl | (simp; done) | (simp [*]; done)), H', ⟨Nat.le_refl _⟩, by repeat (first | exact Drawn0.refl _ | apply Drawn0.step)⟩
  case round =>
    clear H'
    obtain ⟨x3_1, x4_1, rfl, rfl, HA, HK1, ⟨m1, rfl⟩⟩ := hrel
    cases gk with
    | zero => exact absurd HA.out (by simp [abacistref03_Root.l0])
    | succ k1 =>
      have H := HA.out
      clear HA
      simp only [abacistref03_Root.l0] at H
      by_cases c2 : x4_1 < a0
      · rw [if_pos c2] at H
        have c2b0 : decide (x4_1 < a0) = true := decide_eq_true c2
        clear c2
        have H' := Aside0.mk H
        clear H
        go_wp2
        (first | go_roundg k1 | (simp only [add_plain] at *; go_roundg k1))
        case measure => have := HK1.out; omega
        case rel => exact ⟨(IntKind.u64.wrap (Int.tdiv x3_1 2)), (wrap64 (x4_1 + 1)), (by first | rfl | (simp; done) | (simp [*]; done)), (by first | rfl | (simp; done) | (simp [*]; done)), H', ⟨by have := HK1.out; omega⟩, by repeat (first | exact Drawn0.refl _ | apply Drawn0.step)⟩
      · rw [if_neg c2] at H
        have c2b0 : decide (x4_1 < a0) = false := decide_eq_false c2
        clear c2
        replace H := Option.bind_eq_some_iff.mp H
        obtain ⟨t140, A30, H⟩ := H
        replace H : (some t140) = some r := H
        have A3 := Aside0.mk A30
        clear A30
        obtain rfl := Option.some.inj H
        go_wp2_with (first | ((with_reducible refine gate_callee (f := 15) rfl ?_); refine goesL_ (some 13) rfl rfl Tryd.func15 (by kernel_rfl) rfl #[.int .u64 7, .int .u64 x3_1] rfl (by (try simp only [List.map_toArray, List.map_cons, List.map_nil]); first | done | rfl | (simp only [List.length_drop, List.length_take]; rfl)) ?_; (with_reducible refine (abacistref02_Pow.calls k1 7 x3_1 t140 _ A3.out).mono ?_); rintro e w' ⟨rfl, ⟨nd, rfl⟩⟩; refine ⟨_, rfl, ?_⟩))
        go_ret
        exact ⟨by first | rfl | (simp; done) | (simp [*]; done), by repeat (first | exact Drawn0.refl _ | apply Drawn0.step)⟩

/-! ### abacistlaw03_RootTells: function 3 -/
mutual
def abacistlaw03_RootTells.j0 : Nat → Int → Int → Int → Int → Int → Bool → Option (Bool)
  | 0, _, _, _, _, _, _ => none
  | k + 1, x0, x5, x6, x7, x8, x40 => if x40 = true then (some false) else (if x0 < 0 then (abacistlaw03_RootTells.j1 k x0 x5 x6 x7 x8 true) else (abacistlaw03_RootTells.j1 k x0 x5 x6 x7 x8 (decide (x0 > 32))))
def abacistlaw03_RootTells.j1 : Nat → Int → Int → Int → Int → Int → Bool → Option (Bool)
  | 0, _, _, _, _, _, _ => none
  | k + 1, x0, x5, x6, x7, x8, x46 => if x46 = true then (if x6 = 1 then (if x8 = 1 then (if x5 = 0 then (some (x7 == 0)) else (some false)) else (some false)) else (some false)) else (if x6 = 0 then (if x8 = 0 then ((abacistref03_Root.f k x0).bind fun t149 => (if x5 = t149 then ((abacistref02_Mul.f k x5 x7).bind fun t150 => (if t150 = 1 then (some (decide (x7 < 18446744069414584321))) else (some false))) else (some false))) else (some false)) else (some false))
end
def abacistlaw03_RootTells.f (k : Nat) (a0 : Int) (a1 : Int) : Option (Bool) := (abacistlaw03_awake.f k).bind fun t141 => (if t141 = true then ((root_Root.f k a0).bind fun bt142 => ((root_Back.f k a0).bind fun bt144 => ((root_Fits.f a1).bind fun bt146 => ((abacistref03_Fits.f k a1).bind fun t148 => (if (bt146.2 != (decide (t148 ≥ 0))) = true then (abacistlaw03_RootTells.j0 k a0 bt142.1 bt142.2 bt144.1 bt144.2 true) else (abacistlaw03_RootTells.j0 k a0 bt142.1 bt142.2 bt144.1 bt144.2 (bt146.1 != (mx t148 0)))))))) else (some false))
theorem abacistlaw03_RootTells.mono_l : ∀ k, (∀ y0 y1 y2 y3 y4 y5, LeO (abacistlaw03_RootTells.j0 k y0 y1 y2 y3 y4 y5) (abacistlaw03_RootTells.j0 (k + 1) y0 y1 y2 y3 y4 y5)) ∧ (∀ y0 y1 y2 y3 y4 y5, LeO (abacistlaw03_RootTells.j1 k y0 y1 y2 y3 y4 y5) (abacistlaw03_RootTells.j1 (k + 1) y0 y1 y2 y3 y4 y5))
  | 0 => ⟨fun _ _ _ _ _ _ r h => by simp [abacistlaw03_RootTells.j0] at h, fun _ _ _ _ _ _ r h => by simp [abacistlaw03_RootTells.j1] at h⟩
  | k + 1 => by
    obtain ⟨ih0, ih1⟩ := abacistlaw03_RootTells.mono_l k
    refine ⟨?_, ?_⟩
    · intro y0 y1 y2 y3 y4 y5
      unfold abacistlaw03_RootTells.j0
      repeat' first
      | (with_reducible exact ih0 _ _ _ _ _ _)
      | (with_reducible exact ih1 _ _ _ _ _ _)
      | (with_reducible exact abacistlaw03_awake.mono _)
      | (with_reducible exact abacistref02_Mul.mono _ _ _)
      | (with_reducible exact abacistref03_Fits.mono _ _)
      | (with_reducible exact abacistref03_Root.mono _ _)
      | (with_reducible exact root_Back.mono _ _)
      | (with_reducible exact root_Root.mono _ _)
      | (with_reducible exact LeO.refl _)
      | (with_reducible exact LeO.none _)
      | (with_reducible refine LeO.ite ?_ ?_)
      | (with_reducible refine LeO.bind ?_ (fun _ => ?_))
      | exact ih0 _ _ _ _ _ _
      | exact ih1 _ _ _ _ _ _
      | exact abacistlaw03_awake.mono _
      | exact abacistref02_Mul.mono _ _ _
      | exact abacistref03_Fits.mono _ _
      | exact abacistref03_Root.mono _ _
      | exact root_Back.mono _ _
      | exact root_Root.mono _ _
      | exact LeO.none _
      | refine LeO.ite ?_ ?_
      | refine LeO.bind ?_ (fun _ => ?_)
    · intro y0 y1 y2 y3 y4 y5
      unfold abacistlaw03_RootTells.j1
      repeat' first
      | (with_reducible exact ih0 _ _ _ _ _ _)
      | (with_reducible exact ih1 _ _ _ _ _ _)
      | (with_reducible exact abacistlaw03_awake.mono _)
      | (with_reducible exact abacistref02_Mul.mono _ _ _)
      | (with_reducible exact abacistref03_Fits.mono _ _)
      | (with_reducible exact abacistref03_Root.mono _ _)
      | (with_reducible exact root_Back.mono _ _)
      | (with_reducible exact root_Root.mono _ _)
      | (with_reducible exact LeO.refl _)
      | (with_reducible exact LeO.none _)
      | (with_reducible refine LeO.ite ?_ ?_)
      | (with_reducible refine LeO.bind ?_ (fun _ => ?_))
      | exact ih0 _ _ _ _ _ _
      | exact ih1 _ _ _ _ _ _
      | exact abacistlaw03_awake.mono _
      | exact abacistref02_Mul.mono _ _ _
      | exact abacistref03_Fits.mono _ _
      | exact abacistref03_Root.mono _ _
      | exact root_Back.mono _ _
      | exact root_Root.mono _ _
      | exact LeO.none _
      | refine LeO.ite ?_ ?_
      | refine LeO.bind ?_ (fun _ => ?_)
theorem abacistlaw03_RootTells.mono : ∀ a0 a1 k, LeO (abacistlaw03_RootTells.f k a0 a1) (abacistlaw03_RootTells.f (k + 1) a0 a1) := by
  intro a0 a1 k
  obtain ⟨ih0, ih1⟩ := abacistlaw03_RootTells.mono_l k
  unfold abacistlaw03_RootTells.f
  repeat' first
      | (with_reducible exact ih0 _ _ _ _ _ _)
      | (with_reducible exact ih1 _ _ _ _ _ _)
      | (with_reducible exact abacistlaw03_awake.mono _)
      | (with_reducible exact abacistref02_Mul.mono _ _ _)
      | (with_reducible exact abacistref03_Fits.mono _ _)
      | (with_reducible exact abacistref03_Root.mono _ _)
      | (with_reducible exact root_Back.mono _ _)
      | (with_reducible exact root_Root.mono _ _)
      | (with_reducible exact LeO.refl _)
      | (with_reducible exact LeO.none _)
      | (with_reducible refine LeO.ite ?_ ?_)
      | (with_reducible refine LeO.bind ?_ (fun _ => ?_))
      | exact ih0 _ _ _ _ _ _
      | exact ih1 _ _ _ _ _ _
      | exact abacistlaw03_awake.mono _
      | exact abacistref02_Mul.mono _ _ _
      | exact abacistref03_Fits.mono _ _
      | exact abacistref03_Root.mono _ _
      | exact root_Back.mono _ _
      | exact root_Root.mono _ _
      | exact LeO.none _
      | refine LeO.ite ?_ ?_
      | refine LeO.bind ?_ (fun _ => ?_)
set_option maxHeartbeats 80000000 in
set_option maxRecDepth 100000 in
theorem abacistlaw03_RootTells.calls (k : Nat) (a0 : Int) (a1 : Int) (r : Bool) (hr_ : Aside0 (r = true)) (w : World) (hG : Aside0 (TzTab w)) (h : abacistlaw03_RootTells.f k a0 a1 = some r) :
    Calls Tryd.prog 3 #[.int .i64 a0, .int .i64 a1] w fun e w' => e = .returned (.bool r) ∧ Below w.heap.size w w' := by
  have HB := Aside0.mk (Below.refl w.heap.size w)
  have H : ((abacistlaw03_awake.f k).bind fun t141 => (if t141 = true then ((root_Root.f k a0).bind fun bt142 => ((root_Back.f k a0).bind fun bt144 => ((root_Fits.f a1).bind fun bt146 => ((abacistref03_Fits.f k a1).bind fun t148 => (if (bt146.2 != (decide (t148 ≥ 0))) = true then (abacistlaw03_RootTells.j0 k a0 bt142.1 bt142.2 bt144.1 bt144.2 true) else (abacistlaw03_RootTells.j0 k a0 bt142.1 bt142.2 bt144.1 bt144.2 (bt146.1 != (mx t148 0)))))))) else (some false))) = some r := h
  clear h
  replace H := Option.bind_eq_some_iff.mp H
  obtain ⟨t141, A30, H⟩ := H
  replace H : (if t141 = true then ((root_Root.f k a0).bind fun bt142 => ((root_Back.f k a0).bind fun bt144 => ((root_Fits.f a1).bind fun bt146 => ((abacistref03_Fits.f k a1).bind fun t148 => (if (bt146.2 != (decide (t148 ≥ 0))) = true then (abacistlaw03_RootTells.j0 k a0 bt142.1 bt142.2 bt144.1 bt144.2 true) else (abacistlaw03_RootTells.j0 k a0 bt142.1 bt142.2 bt144.1 bt144.2 (bt146.1 != (mx t148 0)))))))) else (some false)) = some r := H
  have A3 := Aside0.mk A30
  clear A30
  by_cases c4 : t141 = true
  · subst c4
    have H1 : ((root_Root.f k a0).bind fun bt142 => ((root_Back.f k a0).bind fun bt144 => ((root_Fits.f a1).bind fun bt146 => ((abacistref03_Fits.f k a1).bind fun t148 => (if (bt146.2 != (decide (t148 ≥ 0))) = true then (abacistlaw03_RootTells.j0 k a0 bt142.1 bt142.2 bt144.1 bt144.2 true) else (abacistlaw03_RootTells.j0 k a0 bt142.1 bt142.2 bt144.1 bt144.2 (bt146.1 != (mx t148 0)))))))) = some r := by rw [if_pos rfl] at H; exact H
    clear H
    have H := H1
    clear H1
    replace H := Option.bind_eq_some_iff.mp H
    obtain ⟨⟨t142, t143⟩, A50, H⟩ := H
    replace H : ((root_Back.f k a0).bind fun bt144 => ((root_Fits.f a1).bind fun bt146 => ((abacistref03_Fits.f k a1).bind fun t148 => (if (bt146.2 != (decide (t148 ≥ 0))) = true then (abacistlaw03_RootTells.j0 k a0 t142 t143 bt144.1 bt144.2 true) else (abacistlaw03_RootTells.j0 k a0 t142 t143 bt144.1 bt144.2 (bt146.1 != (mx t148 0))))))) = some r := H
    have A5 := Aside0.mk A50
    clear A50
    replace H := Option.bind_eq_some_iff.mp H
    obtain ⟨⟨t144, t145⟩, A60, H⟩ := H
    replace H : ((root_Fits.f a1).bind fun bt146 => ((abacistref03_Fits.f k a1).bind fun t148 => (if (bt146.2 != (decide (t148 ≥ 0))) = true then (abacistlaw03_RootTells.j0 k a0 t142 t143 t144 t145 true) else (abacistlaw03_RootTells.j0 k a0 t142 t143 t144 t145 (bt146.1 != (mx t148 0)))))) = some r := H
    have A6 := Aside0.mk A60
    clear A60
    replace H := Option.bind_eq_some_iff.mp H
    obtain ⟨⟨t146, t147⟩, A70, H⟩ := H
    replace H : ((abacistref03_Fits.f k a1).bind fun t148 => (if (t147 != (decide (t148 ≥ 0))) = true then (abacistlaw03_RootTells.j0 k a0 t142 t143 t144 t145 true) else (abacistlaw03_RootTells.j0 k a0 t142 t143 t144 t145 (t146 != (mx t148 0))))) = some r := H
    have A7 := Aside0.mk A70
    clear A70
    replace H := Option.bind_eq_some_iff.mp H
    obtain ⟨t148, A80, H⟩ := H
    replace H : (if (t147 != (decide (t148 ≥ 0))) = true then (abacistlaw03_RootTells.j0 k a0 t142 t143 t144 t145 true) else (abacistlaw03_RootTells.j0 k a0 t142 t143 t144 t145 (t146 != (mx t148 0)))) = some r := H
    have A8 := Aside0.mk A80
    clear A80
    have HC9 := Aside0.mk H
    clear H
    go_enter Tryd.func3, Tryd.ntmps3
    go_upto_region 7 with (first | ((with_reducible refine gate_callee (f := 4) rfl ?_); refine goesL_ (some 12) rfl rfl Tryd.func4 (by kernel_rfl) rfl #[] rfl (by (try simp only [List.map_toArray, List.map_cons, List.map_nil]); first | done | rfl | (simp only [List.length_drop, List.length_take]; rfl)) ?_; (with_reducible refine (abacistlaw03_awake.calls k  true _ A3.out).mono ?_); rintro e w10 ⟨rfl, hb⟩; refine ⟨_, rfl, ?_⟩; have n0_ := Aside0.mk (below_step (by repeat (first | (with_reducible first | exact HB.out | apply below_alloc | apply pw_below_drewN | apply below_drew1) | exact HB.out)) hb); clear HB; have HB := n0_; clear n0_; (try clear hb); (try clear hb2); (try clear hk); (try clear hi)) | (go_at_call 4; (with_reducible refine (abacistlaw03_awake.calls k  true _ A3.out).mono ?_); rintro e w10 ⟨rfl, hb⟩; have n0_ := Aside0.mk (below_step (by repeat (first | (with_reducible first | exact HB.out | apply below_alloc | apply pw_below_drewN | apply below_drew1) | exact HB.out)) hb); clear HB; have HB := n0_; clear n0_; (try clear hb); (try clear hb2); (try clear hk); (try clear hi)) | ((with_reducible refine gate_callee (f := 5) rfl ?_); refine goesL_ (some 16) rfl rfl Tryd.func5 (by kernel_rfl) rfl #[.int .i64 a0] rfl (by (try simp only [List.map_toArray, List.map_cons, List.map_nil]); first | done | rfl | (simp only [List.length_drop, List.length_take]; rfl)) ?_; (with_reducible refine (root_Root.calls k a0 t142 t143 _ A5.out).mono ?_); rintro e w11 ⟨rfl, hb⟩; refine ⟨_, rfl, ?_⟩; have n0_ := Aside0.mk (below_step (by repeat (first | (with_reducible first | exact HB.out | apply below_alloc | apply pw_below_drewN | apply below_drew1) | exact HB.out)) hb); clear HB; have HB := n0_; clear n0_; (try clear hb); (try clear hb2); (try clear hk); (try clear hi)) | (go_at_call 5; (with_reducible refine (root_Root.calls k a0 t142 t143 _ A5.out).mono ?_); rintro e w11 ⟨rfl, hb⟩; have n0_ := Aside0.mk (below_step (by repeat (first | (with_reducible first | exact HB.out | apply below_alloc | apply pw_below_drewN | apply below_drew1) | exact HB.out)) hb); clear HB; have HB := n0_; clear n0_; (try clear hb); (try clear hb2); (try clear hk); (try clear hi)) | ((with_reducible refine gate_callee (f := 6) rfl ?_); refine goesL_ (some 21) rfl rfl Tryd.func6 (by kernel_rfl) rfl #[.int .i64 a0] rfl (by (try simp only [List.map_toArray, List.map_cons, List.map_nil]); first | done | rfl | (simp only [List.length_drop, List.length_take]; rfl)) ?_; (with_reducible refine (root_Back.calls k a0 t144 t145 _ A6.out).mono ?_); rintro e w12 ⟨rfl, hb⟩; refine ⟨_, rfl, ?_⟩; have n0_ := Aside0.mk (below_step (by repeat (first | (with_reducible first | exact HB.out | apply below_alloc | apply pw_below_drewN | apply below_drew1) | exact HB.out)) hb); clear HB; have HB := n0_; clear n0_; (try clear hb); (try clear hb2); (try clear hk); (try clear hi)) | (go_at_call 6; (with_reducible refine (root_Back.calls k a0 t144 t145 _ A6.out).mono ?_); rintro e w12 ⟨rfl, hb⟩; have n0_ := Aside0.mk (below_step (by repeat (first | (with_reducible first | exact HB.out | apply below_alloc | apply pw_below_drewN | apply below_drew1) | exact HB.out)) hb); clear HB; have HB := n0_; clear n0_; (try clear hb); (try clear hb2); (try clear hk); (try clear hi)) | ((with_reducible refine gate_callee (f := 7) rfl ?_); refine goesL_ (some 26) rfl rfl Tryd.func7 (by kernel_rfl) rfl #[.int .i64 a1] rfl (by (try simp only [List.map_toArray, List.map_cons, List.map_nil]); first | done | rfl | (simp only [List.length_drop, List.length_take]; rfl)) ?_; (with_reducible refine (root_Fits.calls a1 t146 t147 _ ?sideG A7.out).mono ?_); (case sideG => first | exact hG | exact ⟨hG.out⟩ | exact ⟨hG.out.below (by repeat (first | (with_reducible first | exact HB.out | apply below_alloc | apply pw_below_drewN | apply below_drew1) | exact HB.out))⟩); rintro e w' ⟨rfl, ⟨nd, rfl⟩⟩; refine ⟨_, rfl, ?_⟩) | (go_at_call 7; (with_reducible refine (root_Fits.calls a1 t146 t147 _ ?sideG A7.out).mono ?_); (case sideG => first | exact hG | exact ⟨hG.out⟩ | exact ⟨hG.out.below (by repeat (first | (with_reducible first | exact HB.out | apply below_alloc | apply pw_below_drewN | apply below_drew1) | exact HB.out))⟩); rintro e w' ⟨rfl, ⟨nd, rfl⟩⟩) | ((with_reducible refine gate_callee (f := 8) rfl ?_); refine goesL_ (some 30) rfl rfl Tryd.func8 (by kernel_rfl) rfl #[.int .i64 a1] rfl (by (try simp only [List.map_toArray, List.map_cons, List.map_nil]); first | done | rfl | (simp only [List.length_drop, List.length_take]; rfl)) ?_; (with_reducible refine (abacistref03_Fits.calls k a1 t148 _ A8.out).mono ?_); rintro e w' ⟨rfl, ⟨nd, rfl⟩⟩; refine ⟨_, rfl, ?_⟩) | (go_at_call 8; (with_reducible refine (abacistref03_Fits.calls k a1 t148 _ A8.out).mono ?_); rintro e w' ⟨rfl, ⟨nd, rfl⟩⟩))
    (try simp only [Act.put, List.setIfInBounds_toArray, List.set_cons_zero, List.set_cons_succ])
    go_cut [40] (fun v40 wc => ∃ (kq : Nat) (x40_8 : Bool), v40 = .bool x40_8 ∧ Aside0 (abacistlaw03_RootTells.j0 kq a0 t142 t143 t144 t145 x40_8 = some r) ∧ Aside0 (kq ≤ k) ∧ Aside0 (Below w.heap.size w wc))
    case first =>
      have H := HC9.out
      clear HC9
      by_cases c13 : (t147 != (decide (t148 ≥ 0))) = true
      · rw [if_pos c13] at H
        have c13b0 : (t147 != (decide (t148 ≥ 0))) = true := c13
        (try (have c13b1 : decide (t147 = (decide (t148 ≥ 0))) = false := by simpa using c13))
        (try (have c13b2 : (t147 == (decide (t148 ≥ 0))) = false := by simpa using c13))
        (try (have c13b3 : ¬ (t147 = (decide (t148 ≥ 0))) := by simpa using c13))
        clear c13
        (first | rw [c13b0] | (simp only [i64_w, i32_w]; rw [c13b0]) | skip)
        have H' := Aside0.mk H
        clear H
        go_wp2
        go_meet
        case rel => exact ⟨_, (true), (by first | rfl | (simp; done) | (simp [*]; done)), H', ⟨by first | omega | exact Nat.le_refl _⟩, ⟨by repeat (first | (with_reducible first | exact HB.out | apply below_alloc | apply pw_below_drewN | apply below_drew1) | exact HB.out)⟩⟩
      · rw [if_neg c13] at H
        have c13b0 : (t147 != (decide (t148 ≥ 0))) = false := by simpa using c13
        (try (have c13b1 : decide (t147 = (decide (t148 ≥ 0))) = true := by simpa using c13))
        (try (have c13b2 : (t147 == (decide (t148 ≥ 0))) = true := by simpa using c13))
        clear c13
        (first | rw [c13b0] | (simp only [i64_w, i32_w]; rw [c13b0]) | skip)
        obtain ⟨ji14, hji14⟩ : ∃ j_ : Int, (mx t148 0) = j_ := ⟨_, rfl⟩
        replace H : (abacistlaw03_RootTells.j0 k a0 t142 t143 t144 t145 (t146 != (ji14))) = some r := by first | (rw [hji14] at H; exact H) | (simp only [hji14] at H ⊢; exact H)
        (try (have hji14l : 0 ≤ ji14 := by (rw [← hji14]; unfold mx; (repeat' split) <;> omega)))
        (try (have hji14m : 0 ≤ ji14 := by omega))
        have hji14_ : (if t148 < 0 then 0 else t148) = ji14 := hji14
        have H' := Aside0.mk H
        clear H
        go_wp2
        go_meet
        case rel => exact ⟨_, ((t146 != (ji14))), (by first | rfl | (simp; done) | (simp only [← hji14] <;> (first | rfl | simp)) | (simp [*]; done)), H', ⟨by first | omega | exact Nat.le_refl _⟩, ⟨by repeat (first | (with_reducible first | exact HB.out | apply below_alloc | apply pw_below_drewN | apply below_drew1) | exact HB.out)⟩⟩
    case rest =>
      clear HC9
      try clear c1
      try clear p2
      try clear c3
      try clear c4
      try clear c5
      try clear c6
      try clear c7
      try clear c8
      try clear c13
      try clear c13b0
      try clear c13b1
      try clear c13b2
      obtain ⟨kq, x40_8, rfl, HA, HJ8, HB⟩ := hcut
      cases kq with
      | zero => exact absurd HA.out (by simp [abacistlaw03_RootTells.j0])
      | succ kj8 =>
        have H := HA.out
        clear HA
        simp only [abacistlaw03_RootTells.j0] at H
        by_cases c15 : x40_8 = true
        · subst c15
          have H1 : (some false) = some r := by rw [if_pos rfl] at H; exact H
          clear H
          have H := H1
          clear H1
          obtain rfl := Option.some.inj H
          exact absurd hr_.out (by decide)
        · replace c15 := Bool.eq_false_iff.mpr c15
          subst c15
          have H1 : (if a0 < 0 then (abacistlaw03_RootTells.j1 kj8 a0 t142 t143 t144 t145 true) else (abacistlaw03_RootTells.j1 kj8 a0 t142 t143 t144 t145 (decide (a0 > 32)))) = some r := by rw [if_neg (show ¬ (false = true) by decide)] at H; exact H
          clear H
          have H := H1
          clear H1
          have HC16 := Aside0.mk H
          clear H
          go_upto_region 9 with (fail)
          go_cut [46] (fun v46 wc => ∃ (kq : Nat) (x46_15 : Bool), v46 = .bool x46_15 ∧ Aside0 (abacistlaw03_RootTells.j1 kq a0 t142 t143 t144 t145 x46_15 = some r) ∧ Aside0 (kq ≤ kj8) ∧ Aside0 (Below w.heap.size w wc))
          case first =>
            have H := HC16.out
            clear HC16
            by_cases c17 : a0 < 0
            · rw [if_pos c17] at H
              have c17b0 : decide (a0 < 0) = true := decide_eq_true c17
              clear c17
              (first | rw [c17b0] | (simp only [i64_w, i32_w]; rw [c17b0]) | skip)
              have H' := Aside0.mk H
              clear H
              go_wp2
              go_meet
              case rel => exact ⟨_, (true), (by first | rfl | (simp; done) | (simp [*]; done)), H', ⟨by have := HJ8.out; first | omega | exact Nat.le_refl _⟩, ⟨by repeat (first | (with_reducible first | exact HB.out | apply below_alloc | apply pw_below_drewN | apply below_drew1) | exact HB.out)⟩⟩
            · rw [if_neg c17] at H
              have c17b0 : decide (a0 < 0) = false := decide_eq_false c17
              clear c17
              (first | rw [c17b0] | (simp only [i64_w, i32_w]; rw [c17b0]) | skip)
              have H' := Aside0.mk H
              clear H
              go_wp2
              go_meet
              case rel => exact ⟨_, (decide (a0 > 32)), (by first | rfl | (simp; done) | (simp [*]; done)), H', ⟨by have := HJ8.out; first | omega | exact Nat.le_refl _⟩, ⟨by repeat (first | (with_reducible first | exact HB.out | apply below_alloc | apply pw_below_drewN | apply below_drew1) | exact HB.out)⟩⟩
          case rest =>
            clear HC16
            try clear c1
            try clear p2
            try clear c3
            try clear c4
            try clear c5
            try clear c6
            try clear c7
            try clear c8
            try clear c13
            try clear c13b0
            try clear c13b1
            try clear c13b2
            try clear c15
            try clear c17
            try clear c17b0
            try clear p2
            obtain ⟨kq, x46_15, rfl, HA, HJ15, HB⟩ := hcut
            cases kq with
            | zero => exact absurd HA.out (by simp [abacistlaw03_RootTells.j1])
            | succ kj15 =>
              have H := HA.out
              clear HA
              simp only [abacistlaw03_RootTells.j1] at H
              by_cases c18 : x46_15 = true
              · subst c18
                have H1 : (if t143 = 1 then (if t145 = 1 then (if t142 = 0 then (some (t144 == 0)) else (some false)) else (some false)) else (some false)) = some r := by rw [if_pos rfl] at H; exact H
                clear H
                have H := H1
                clear H1
                by_cases c19 : t143 = 1
                · rw [if_pos c19] at H
                  have c19b0 : (t143 == 1) = true := beq_iff_eq.mpr c19
                  have c19b1 : (t143 != 1) = false := bne_eq_false_iff_eq.mpr c19
                  clear c19
                  by_cases c20 : t145 = 1
                  · rw [if_pos c20] at H
                    have c20b0 : (t145 == 1) = true := beq_iff_eq.mpr c20
                    have c20b1 : (t145 != 1) = false := bne_eq_false_iff_eq.mpr c20
                    clear c20
                    by_cases c21 : t142 = 0
                    · rw [if_pos c21] at H
                      have c21b0 : (t142 == 0) = true := beq_iff_eq.mpr c21
                      have c21b1 : (t142 != 0) = false := bne_eq_false_iff_eq.mpr c21
                      clear c21
                      obtain rfl := Option.some.inj H
                      go_wp2
                      go_ret
                      exact ⟨by first | rfl | (simp [errW_none, errW_some] <;> rfl) | (simp [*, errW_none, errW_some] <;> rfl), by repeat (first | (with_reducible first | exact HB.out | apply below_alloc | apply pw_below_drewN | apply below_drew1) | exact HB.out)⟩
                    · rw [if_neg c21] at H
                      have c21b0 : (t142 == 0) = false := beq_eq_false_iff_ne.mpr c21
                      have c21b1 : (t142 != 0) = true := bne_iff_ne.mpr c21
                      obtain rfl := Option.some.inj H
                      exact absurd hr_.out (by decide)
                  · rw [if_neg c20] at H
                    have c20b0 : (t145 == 1) = false := beq_eq_false_iff_ne.mpr c20
                    have c20b1 : (t145 != 1) = true := bne_iff_ne.mpr c20
                    obtain rfl := Option.some.inj H
                    exact absurd hr_.out (by decide)
                · rw [if_neg c19] at H
                  have c19b0 : (t143 == 1) = false := beq_eq_false_iff_ne.mpr c19
                  have c19b1 : (t143 != 1) = true := bne_iff_ne.mpr c19
                  obtain rfl := Option.some.inj H
                  exact absurd hr_.out (by decide)
              · replace c18 := Bool.eq_false_iff.mpr c18
                subst c18
                have H1 : (if t143 = 0 then (if t145 = 0 then ((abacistref03_Root.f kj15 a0).bind fun t149 => (if t142 = t149 then ((abacistref02_Mul.f kj15 t142 t144).bind fun t150 => (if t150 = 1 then (some (decide (t144 < 18446744069414584321))) else (some false))) else (some false))) else (some false)) else (some false)) = some r := by rw [if_neg (show ¬ (false = true) by decide)] at H; exact H
                clear H
                have H := H1
                clear H1
                by_cases c22 : t143 = 0
                · rw [if_pos c22] at H
                  have c22b0 : (t143 == 0) = true := beq_iff_eq.mpr c22
                  have c22b1 : (t143 != 0) = false := bne_eq_false_iff_eq.mpr c22
                  clear c22
                  by_cases c23 : t145 = 0
                  · rw [if_pos c23] at H
                    have c23b0 : (t145 == 0) = true := beq_iff_eq.mpr c23
                    have c23b1 : (t145 != 0) = false := bne_eq_false_iff_eq.mpr c23
                    clear c23
                    replace H := Option.bind_eq_some_iff.mp H
                    obtain ⟨t149, A240, H⟩ := H
                    replace H : (if t142 = t149 then ((abacistref02_Mul.f kj15 t142 t144).bind fun t150 => (if t150 = 1 then (some (decide (t144 < 18446744069414584321))) else (some false))) else (some false)) = some r := H
                    have A24 := Aside0.mk A240
                    clear A240
                    by_cases c25 : t142 = t149
                    · rw [if_pos c25] at H
                      have c25b0 : (t142 == t149) = true := beq_iff_eq.mpr c25
                      have c25b1 : (t142 != t149) = false := bne_eq_false_iff_eq.mpr c25
                      clear c25
                      replace H := Option.bind_eq_some_iff.mp H
                      obtain ⟨t150, A260, H⟩ := H
                      replace H : (if t150 = 1 then (some (decide (t144 < 18446744069414584321))) else (some false)) = some r := H
                      have A26 := Aside0.mk A260
                      clear A260
                      by_cases c27 : t150 = 1
                      · rw [if_pos c27] at H
                        have c27b0 : (t150 == 1) = true := beq_iff_eq.mpr c27
                        have c27b1 : (t150 != 1) = false := bne_eq_false_iff_eq.mpr c27
                        clear c27
                        obtain rfl := Option.some.inj H
                        go_wp2_with (first | (go_at_call 9; (with_reducible refine (abacistref03_Root.calls kj15 a0 t149 _ A24.out).mono ?_); rintro e w' ⟨rfl, ⟨nd, rfl⟩⟩) | (go_at_call 10; (with_reducible refine (abacistref02_Mul.calls kj15 t142 t144 t150 _ A26.out).mono ?_); rintro e w' ⟨rfl, ⟨nd, rfl⟩⟩))
                        go_ret
                        exact ⟨by first | rfl | (simp [errW_none, errW_some] <;> rfl) | (simp [*, errW_none, errW_some] <;> rfl), by repeat (first | (with_reducible first | exact HB.out | apply below_alloc | apply pw_below_drewN | apply below_drew1) | exact HB.out)⟩
                      · rw [if_neg c27] at H
                        have c27b0 : (t150 == 1) = false := beq_eq_false_iff_ne.mpr c27
                        have c27b1 : (t150 != 1) = true := bne_iff_ne.mpr c27
                        obtain rfl := Option.some.inj H
                        exact absurd hr_.out (by decide)
                    · rw [if_neg c25] at H
                      have c25b0 : (t142 == t149) = false := beq_eq_false_iff_ne.mpr c25
                      have c25b1 : (t142 != t149) = true := bne_iff_ne.mpr c25
                      obtain rfl := Option.some.inj H
                      exact absurd hr_.out (by decide)
                  · rw [if_neg c23] at H
                    have c23b0 : (t145 == 0) = false := beq_eq_false_iff_ne.mpr c23
                    have c23b1 : (t145 != 0) = true := bne_iff_ne.mpr c23
                    obtain rfl := Option.some.inj H
                    exact absurd hr_.out (by decide)
                · rw [if_neg c22] at H
                  have c22b0 : (t143 == 0) = false := beq_eq_false_iff_ne.mpr c22
                  have c22b1 : (t143 != 0) = true := bne_iff_ne.mpr c22
                  obtain rfl := Option.some.inj H
                  exact absurd hr_.out (by decide)
  · replace c4 := Bool.eq_false_iff.mpr c4
    subst c4
    have H1 : (some false) = some r := by rw [if_neg (show ¬ (false = true) by decide)] at H; exact H
    clear H
    have H := H1
    clear H1
    obtain rfl := Option.some.inj H
    exact absurd hr_.out (by decide)

/-- THE ONE PURE STATEMENT of abacistlaw03_RootTells: yours. -/
def abacistlaw03_RootTells.Pure : Prop := ∀ (a0 : Int) (a1 : Int), (Lit.int .i64 a0).wf = true → (Lit.int .i64 a1).wf = true → ∃ k, abacistlaw03_RootTells.f k a0 a1 = some true
theorem abacistlaw03_RootTells.walk (P : abacistlaw03_RootTells.Pure) (a0 : Int) (a1 : Int) (w : World) (hG : Aside0 (TzTab w)) (w0 : (Lit.int .i64 a0).wf = true) (w1 : (Lit.int .i64 a1).wf = true) :
    Calls Tryd.prog 3 #[.int .i64 a0, .int .i64 a1] w fun e w' => e = .returned (.bool true) ∧ Below w.heap.size w w' := by
  obtain ⟨k, h⟩ := P a0 a1 w0 w1
  refine (abacistlaw03_RootTells.calls k a0 a1 true ⟨rfl⟩ w hG h).mono ?_
  rintro e w' ⟨rfl, hd⟩
  exact ⟨rfl, hd⟩

end Go.Proofs.YtalfhpghmoikoaaDoor.PRootTells
