-- Written for this claim by wip/gen/mk.sh, this session's own driver over the kit's print
import Derived.Test.YtggmpdmlbjllhaaDoorPHalvesRunx0
import Derived.Test.YtggmpdmlbjllhaaDoorPHalvesRunx2
import Derived.Test.YtggmpdmlbjllhaaDoorPHalvesRunx4
namespace Go.Proofs.YtggmpdmlbjllhaaDoor.PHalvesRun
open Go.RowKit Go.Proofs.YtggmpdmlbjllhaaDoorW.PrintWords Go.Proofs.YtggmpdmlbjllhaaDoorW.PrintLast Go.Proofs.YtggmpdmlbjllhaaDoorW.PrintMore
attribute [local go_sem] max2_int min2_int max_two min_two max_three min_three max_four min_four   -- for this text's walks alone
set_option linter.unusedVariables false
set_option linter.unusedSimpArgs false

/-! ### abacistref03_Root: function 34 -/
def abacistref03_Root.l0 : Nat → Int → Int → Int → Option (Int)
  | 0, _, _, _ => none
  | k + 1, x0, x3, x4 => if x4 < x0 then (abacistref03_Root.l0 k x0 (IntKind.u64.wrap (Int.tdiv x3 2)) (wrap64 (x4 + 1))) else ((abacistref02_Pow.f k 7 x3).bind fun t201 => (some t201))
def abacistref03_Root.f (k : Nat) (a0 : Int) : Option (Int) := abacistref03_Root.l0 k a0 18446744069414584320 0
theorem abacistref03_Root.mono_l : ∀ k, (∀ y0 y1 y2, LeO (abacistref03_Root.l0 k y0 y1 y2) (abacistref03_Root.l0 (k + 1) y0 y1 y2))
  | 0 => fun _ _ _ r h => by simp [abacistref03_Root.l0] at h
  | k + 1 => by
    have ih0 := abacistref03_Root.mono_l k
    · intro y0 y1 y2
      unfold abacistref03_Root.l0
      repeat' first
      | (with_reducible exact ih0 _ _ _)
      | (with_reducible exact abacistref02_Pow.mono _ _ _)
      | (with_reducible exact LeO.refl _)
      | (with_reducible exact LeO.none _)
      | (with_reducible refine LeO.ite ?_ ?_)
      | (with_reducible refine LeO.bind ?_ (fun _ => ?_))
      | exact ih0 _ _ _
      | exact abacistref02_Pow.mono _ _ _
      | exact LeO.none _
      | refine LeO.ite ?_ ?_
      | refine LeO.bind ?_ (fun _ => ?_)
theorem abacistref03_Root.mono : ∀ a0 k, LeO (abacistref03_Root.f k a0) (abacistref03_Root.f (k + 1) a0) := by
  intro a0 k
  have ih0 := abacistref03_Root.mono_l k
  unfold abacistref03_Root.f
  repeat' first
      | (with_reducible exact ih0 _ _ _)
      | (with_reducible exact abacistref02_Pow.mono _ _ _)
      | (with_reducible exact LeO.refl _)
      | (with_reducible exact LeO.none _)
      | (with_reducible refine LeO.ite ?_ ?_)
      | (with_reducible refine LeO.bind ?_ (fun _ => ?_))
      | exact ih0 _ _ _
      | exact abacistref02_Pow.mono _ _ _
      | exact LeO.none _
      | refine LeO.ite ?_ ?_
      | refine LeO.bind ?_ (fun _ => ?_)
set_option maxHeartbeats 8000000 in
set_option maxRecDepth 100000 in
theorem abacistref03_Root.calls (k : Nat) (a0 : Int) (r : Int) (w : World) (h : abacistref03_Root.f k a0 = some r) :
    Calls Tryd.prog 34 #[.int .i64 a0] w fun e w' => e = .returned (.int .u64 r) ∧ Drawn0 w w' := by
  have H : (abacistref03_Root.l0 k a0 18446744069414584320 0) = some r := h
  clear h
  have H' := Aside0.mk H
  clear H
  go_enter Tryd.func34, Tryd.ntmps34
  go_wp2
  go_loopg [3, 4] k (fun kq v3 v4 w' => ∃ (x3_1 : Int) (x4_1 : Int), v3 = .int .u64 x3_1 ∧ v4 = .int .i64 x4_1 ∧ Aside0 (abacistref03_Root.l0 kq a0 x3_1 x4_1 = some r) ∧ Aside0 (kq ≤ k) ∧ Drawn0 w w')
  case atStart => exact ⟨(18446744069414584320), (0), (by first | rfl | (simp; done) | (simp [*]; done)), (by first | rfl | (simp; done) | (simp [*]; done)), H', ⟨Nat.le_refl _⟩, by repeat (first | exact Drawn0.refl _ | apply Drawn0.step)⟩
  case round =>
    clear H'
    obtain ⟨x3_1, x4_1, rfl, rfl, HA, HK1, ⟨m1, rfl⟩⟩ := hrel
    cases gk with
    | zero => exact absurd HA.out (by simp [abacistref03_Root.l0])
    | succ k1 =>
      have H := HA.out
      clear HA
      simp only [abacistref03_Root.l0] at H
      by_cases c2 : x4_1 < a0
      · rw [if_pos c2] at H
        have c2b0 : decide (x4_1 < a0) = true := decide_eq_true c2
        clear c2
        have H' := Aside0.mk H
        clear H
        go_wp2
        (first | go_roundg k1 | (simp only [add_plain] at *; go_roundg k1))
        case measure => have := HK1.out; omega
        case rel => exact ⟨(IntKind.u64.wrap (Int.tdiv x3_1 2)), (wrap64 (x4_1 + 1)), (by first | rfl | (simp; done) | (simp [*]; done)), (by first | rfl | (simp; done) | (simp [*]; done)), H', ⟨by have := HK1.out; omega⟩, by repeat (first | exact Drawn0.refl _ | apply Drawn0.step)⟩
      · rw [if_neg c2] at H
        have c2b0 : decide (x4_1 < a0) = false := decide_eq_false c2
        clear c2
        replace H := Option.bind_eq_some_iff.mp H
        obtain ⟨t201, A30, H⟩ := H
        replace H : (some t201) = some r := H
        have A3 := Aside0.mk A30
        clear A30
        obtain rfl := Option.some.inj H
        go_wp2_with (first | ((with_reducible refine gate_callee (f := 35) rfl ?_); refine goesL_ (some 13) rfl rfl Tryd.func35 (by kernel_rfl) rfl #[.int .u64 7, .int .u64 x3_1] rfl (by (try simp only [List.map_toArray, List.map_cons, List.map_nil]); first | done | rfl | (simp only [List.length_drop, List.length_take]; rfl)) ?_; (with_reducible refine (abacistref02_Pow.calls k1 7 x3_1 t201 _ A3.out).mono ?_); rintro e w' ⟨rfl, ⟨nd, rfl⟩⟩; refine ⟨_, rfl, ?_⟩))
        go_ret
        exact ⟨by first | rfl | (simp; done) | (simp [*]; done), by repeat (first | exact Drawn0.refl _ | apply Drawn0.step)⟩

/-! ### abacistref08_Root: function 17 -/
def abacistref08_Root.l0 : Nat → Int → Int → Int → Int → Option (Int)
  | 0, _, _, _, _ => none
  | k + 1, x0, x5, x6, x7 => if x7 < x0 then (abacistref08_Root.l0 k x0 x5 (IntKind.u64.wrap (2 * x6)) (wrap64 (x7 + 1))) else ((abacistref02_Pow.f k x5 (IntKind.u64.wrap (x6 - 1))).bind fun t203 => (some t203))
def abacistref08_Root.f (k : Nat) (a0 : Int) (a1 : Int) : Option (Int) := (abacistref03_Root.f k a0).bind fun t202 => (if a1 = 0 then (some t202) else (abacistref08_Root.l0 k a0 t202 1 0))
theorem abacistref08_Root.mono_l : ∀ k, (∀ y0 y1 y2 y3, LeO (abacistref08_Root.l0 k y0 y1 y2 y3) (abacistref08_Root.l0 (k + 1) y0 y1 y2 y3))
  | 0 => fun _ _ _ _ r h => by simp [abacistref08_Root.l0] at h
  | k + 1 => by
    have ih0 := abacistref08_Root.mono_l k
    · intro y0 y1 y2 y3
      unfold abacistref08_Root.l0
      repeat' first
      | (with_reducible exact ih0 _ _ _ _)
      | (with_reducible exact abacistref02_Pow.mono _ _ _)
      | (with_reducible exact abacistref03_Root.mono _ _)
      | (with_reducible exact LeO.refl _)
      | (with_reducible exact LeO.none _)
      | (with_reducible refine LeO.ite ?_ ?_)
      | (with_reducible refine LeO.bind ?_ (fun _ => ?_))
      | exact ih0 _ _ _ _
      | exact abacistref02_Pow.mono _ _ _
      | exact abacistref03_Root.mono _ _
      | exact LeO.none _
      | refine LeO.ite ?_ ?_
      | refine LeO.bind ?_ (fun _ => ?_)
theorem abacistref08_Root.mono : ∀ a0 a1 k, LeO (abacistref08_Root.f k a0 a1) (abacistref08_Root.f (k + 1) a0 a1) := by
  intro a0 a1 k
  have ih0 := abacistref08_Root.mono_l k
  unfold abacistref08_Root.f
  repeat' first
      | (with_reducible exact ih0 _ _ _ _)
      | (with_reducible exact abacistref02_Pow.mono _ _ _)
      | (with_reducible exact abacistref03_Root.mono _ _)
      | (with_reducible exact LeO.refl _)
      | (with_reducible exact LeO.none _)
      | (with_reducible refine LeO.ite ?_ ?_)
      | (with_reducible refine LeO.bind ?_ (fun _ => ?_))
      | exact ih0 _ _ _ _
      | exact abacistref02_Pow.mono _ _ _
      | exact abacistref03_Root.mono _ _
      | exact LeO.none _
      | refine LeO.ite ?_ ?_
      | refine LeO.bind ?_ (fun _ => ?_)
set_option maxHeartbeats 8000000 in
set_option maxRecDepth 100000 in
theorem abacistref08_Root.calls (k : Nat) (a0 : Int) (a1 : Int) (r : Int) (w : World) (h : abacistref08_Root.f k a0 a1 = some r) :
    Calls Tryd.prog 17 #[.int .i64 a0, .int .i64 a1] w fun e w' => e = .returned (.int .u64 r) ∧ Drawn0 w w' := by
  have H : ((abacistref03_Root.f k a0).bind fun t202 => (if a1 = 0 then (some t202) else (abacistref08_Root.l0 k a0 t202 1 0))) = some r := h
  clear h
  replace H := Option.bind_eq_some_iff.mp H
  obtain ⟨t202, A30, H⟩ := H
  replace H : (if a1 = 0 then (some t202) else (abacistref08_Root.l0 k a0 t202 1 0)) = some r := H
  have A3 := Aside0.mk A30
  clear A30
  by_cases c4 : a1 = 0
  · rw [if_pos c4] at H
    have c4b0 : (a1 == 0) = true := beq_iff_eq.mpr c4
    have c4b1 : (a1 != 0) = false := bne_eq_false_iff_eq.mpr c4
    clear c4
    obtain rfl := Option.some.inj H
    go_enter Tryd.func17, Tryd.ntmps17
    go_wp2_with (first | ((with_reducible refine gate_callee (f := 34) rfl ?_); refine goesL_ (some 9) rfl rfl Tryd.func34 (by kernel_rfl) rfl #[.int .i64 a0] rfl (by (try simp only [List.map_toArray, List.map_cons, List.map_nil]); first | done | rfl | (simp only [List.length_drop, List.length_take]; rfl)) ?_; (with_reducible refine (abacistref03_Root.calls k a0 t202 _ A3.out).mono ?_); rintro e w' ⟨rfl, ⟨nd, rfl⟩⟩; refine ⟨_, rfl, ?_⟩))
    go_ret
    exact ⟨by first | rfl | (simp; done) | (simp [*]; done), by repeat (first | exact Drawn0.refl _ | apply Drawn0.step)⟩
  · rw [if_neg c4] at H
    have c4b0 : (a1 == 0) = false := beq_eq_false_iff_ne.mpr c4
    have c4b1 : (a1 != 0) = true := bne_iff_ne.mpr c4
    have H' := Aside0.mk H
    clear H
    go_enter Tryd.func17, Tryd.ntmps17
    go_wp2_with (first | ((with_reducible refine gate_callee (f := 34) rfl ?_); refine goesL_ (some 9) rfl rfl Tryd.func34 (by kernel_rfl) rfl #[.int .i64 a0] rfl (by (try simp only [List.map_toArray, List.map_cons, List.map_nil]); first | done | rfl | (simp only [List.length_drop, List.length_take]; rfl)) ?_; (with_reducible refine (abacistref03_Root.calls k a0 t202 _ A3.out).mono ?_); rintro e w' ⟨rfl, ⟨nd, rfl⟩⟩; refine ⟨_, rfl, ?_⟩))
    go_loopg [6, 7] k (fun kq v6 v7 w' => ∃ (x6_1 : Int) (x7_1 : Int), v6 = .int .u64 x6_1 ∧ v7 = .int .i64 x7_1 ∧ Aside0 (abacistref08_Root.l0 kq a0 t202 x6_1 x7_1 = some r) ∧ Aside0 (kq ≤ k) ∧ Drawn0 w w')
    case atStart => exact ⟨(1), (0), (by first | rfl | (simp; done) | (simp [*]; done)), (by first | rfl | (simp; done) | (simp [*]; done)), H', ⟨Nat.le_refl _⟩, by repeat (first | exact Drawn0.refl _ | apply Drawn0.step)⟩
    case round =>
      clear H'
      try clear c1
      try clear p2
      try clear c3
      try clear c4
      try clear c4b0
      try clear c4b1
      obtain ⟨x6_1, x7_1, rfl, rfl, HA, HK1, ⟨m1, rfl⟩⟩ := hrel
      cases gk with
      | zero => exact absurd HA.out (by simp [abacistref08_Root.l0])
      | succ k1 =>
        have H := HA.out
        clear HA
        simp only [abacistref08_Root.l0] at H
        by_cases c5 : x7_1 < a0
        · rw [if_pos c5] at H
          have c5b0 : decide (x7_1 < a0) = true := decide_eq_true c5
          clear c5
          have H' := Aside0.mk H
          clear H
          go_wp2
          (first | go_roundg k1 | (simp only [add_plain] at *; go_roundg k1))
          case measure => have := HK1.out; omega
          case rel => exact ⟨(IntKind.u64.wrap (2 * x6_1)), (wrap64 (x7_1 + 1)), (by first | rfl | (simp; done) | (simp [*]; done)), (by first | rfl | (simp; done) | (simp [*]; done)), H', ⟨by have := HK1.out; omega⟩, by repeat (first | exact Drawn0.refl _ | apply Drawn0.step)⟩
        · rw [if_neg c5] at H
          have c5b0 : decide (x7_1 < a0) = false := decide_eq_false c5
          clear c5
          replace H := Option.bind_eq_some_iff.mp H
          obtain ⟨t203, A60, H⟩ := H
          replace H : (some t203) = some r := H
          have A6 := Aside0.mk A60
          clear A60
          obtain rfl := Option.some.inj H
          go_wp2_with (first | ((with_reducible refine gate_callee (f := 35) rfl ?_); refine goesL_ (some 23) rfl rfl Tryd.func35 (by kernel_rfl) rfl #[.int .u64 t202, .int .u64 (IntKind.u64.wrap (x6_1 - 1))] rfl (by (try simp only [List.map_toArray, List.map_cons, List.map_nil]); first | done | rfl | (simp only [List.length_drop, List.length_take]; rfl)) ?_; (with_reducible refine (abacistref02_Pow.calls k1 t202 (IntKind.u64.wrap (x6_1 - 1)) t203 _ A6.out).mono ?_); rintro e w' ⟨rfl, ⟨nd, rfl⟩⟩; refine ⟨_, rfl, ?_⟩))
          go_ret
          exact ⟨by first | rfl | (simp; done) | (simp [*]; done), by repeat (first | exact Drawn0.refl _ | apply Drawn0.step)⟩

/-! ### abacistref08_Dft: function 26 -/
mutual
def abacistref08_Dft.l0 : Nat → List Int → Int → List Int → Int → Int → Option (List Int)
  | 0, _, _, _, _, _ => none
  | k + 1, x0, x7, x8, x9, x10 => if x10 < (x0.length : Int) then (abacistref08_Dft.l1 k x0 x7 x8 x9 x10 0 1 0) else (some x8)
def abacistref08_Dft.l1 : Nat → List Int → Int → List Int → Int → Int → Int → Int → Int → Option (List Int)
  | 0, _, _, _, _, _, _, _, _ => none
  | k + 1, x0, x7, x8, x9, x10, x11, x12, x13 => if x13 < (x0.length : Int) then (if 0 ≤ x13 then ((abacistref02_Mul.f k (rd x0 x13) x12).bind fun t206 => ((abacistref02_Add.f x11 t206).bind fun t207 => ((abacistref02_Mul.f k x12 x9).bind fun t208 => (abacistref08_Dft.l1 k x0 x7 x8 x9 x10 t207 t208 (wrap64 (x13 + 1)))))) else (none)) else (if x8.length < 17592186044416 then ((abacistref02_Mul.f k x9 x7).bind fun t212 => (abacistref08_Dft.l0 k x0 x7 (x8 ++ [x11]) t212 (wrap64 (x10 + 1)))) else (none))
end
def abacistref08_Dft.f (k : Nat) (l0 : List Int) (a1 : Int) (a2 : Int) : Option (List Int) := (abacistref08_Root.f k a1 a2).bind fun t204 => (abacistref08_Dft.l0 k l0 t204 ([] : List Int) 1 0)
theorem abacistref08_Dft.mono_l : ∀ k, (∀ y0 y1 y2 y3 y4, LeO (abacistref08_Dft.l0 k y0 y1 y2 y3 y4) (abacistref08_Dft.l0 (k + 1) y0 y1 y2 y3 y4)) ∧ (∀ y0 y1 y2 y3 y4 y5 y6 y7, LeO (abacistref08_Dft.l1 k y0 y1 y2 y3 y4 y5 y6 y7) (abacistref08_Dft.l1 (k + 1) y0 y1 y2 y3 y4 y5 y6 y7))
  | 0 => ⟨fun _ _ _ _ _ r h => by simp [abacistref08_Dft.l0] at h, fun _ _ _ _ _ _ _ _ r h => by simp [abacistref08_Dft.l1] at h⟩
  | k + 1 => by
    obtain ⟨ih0, ih1⟩ := abacistref08_Dft.mono_l k
    refine ⟨?_, ?_⟩
    · intro y0 y1 y2 y3 y4
      unfold abacistref08_Dft.l0
      repeat' first
      | (with_reducible exact ih0 _ _ _ _ _)
      | (with_reducible exact ih1 _ _ _ _ _ _ _ _)
      | (with_reducible exact abacistref02_Mul.mono _ _ _)
      | (with_reducible exact abacistref08_Root.mono _ _ _)
      | (with_reducible exact LeO.refl _)
      | (with_reducible exact LeO.none _)
      | (with_reducible refine LeO.ite ?_ ?_)
      | (with_reducible refine LeO.bind ?_ (fun _ => ?_))
      | exact ih0 _ _ _ _ _
      | exact ih1 _ _ _ _ _ _ _ _
      | exact abacistref02_Mul.mono _ _ _
      | exact abacistref08_Root.mono _ _ _
      | exact LeO.none _
      | refine LeO.ite ?_ ?_
      | refine LeO.bind ?_ (fun _ => ?_)
    · intro y0 y1 y2 y3 y4 y5 y6 y7
      unfold abacistref08_Dft.l1
      repeat' first
      | (with_reducible exact ih0 _ _ _ _ _)
      | (with_reducible exact ih1 _ _ _ _ _ _ _ _)
      | (with_reducible exact abacistref02_Mul.mono _ _ _)
      | (with_reducible exact abacistref08_Root.mono _ _ _)
      | (with_reducible exact LeO.refl _)
      | (with_reducible exact LeO.none _)
      | (with_reducible refine LeO.ite ?_ ?_)
      | (with_reducible refine LeO.bind ?_ (fun _ => ?_))
      | exact ih0 _ _ _ _ _
      | exact ih1 _ _ _ _ _ _ _ _
      | exact abacistref02_Mul.mono _ _ _
      | exact abacistref08_Root.mono _ _ _
      | exact LeO.none _
      | refine LeO.ite ?_ ?_
      | refine LeO.bind ?_ (fun _ => ?_)
theorem abacistref08_Dft.mono : ∀ a0 a1 a2 k, LeO (abacistref08_Dft.f k a0 a1 a2) (abacistref08_Dft.f (k + 1) a0 a1 a2) := by
  intro a0 a1 a2 k
  obtain ⟨ih0, ih1⟩ := abacistref08_Dft.mono_l k
  unfold abacistref08_Dft.f
  repeat' first
      | (with_reducible exact ih0 _ _ _ _ _)
      | (with_reducible exact ih1 _ _ _ _ _ _ _ _)
      | (with_reducible exact abacistref02_Mul.mono _ _ _)
      | (with_reducible exact abacistref08_Root.mono _ _ _)
      | (with_reducible exact LeO.refl _)
      | (with_reducible exact LeO.none _)
      | (with_reducible refine LeO.ite ?_ ?_)
      | (with_reducible refine LeO.bind ?_ (fun _ => ?_))
      | exact ih0 _ _ _ _ _
      | exact ih1 _ _ _ _ _ _ _ _
      | exact abacistref02_Mul.mono _ _ _
      | exact abacistref08_Root.mono _ _ _
      | exact LeO.none _
      | refine LeO.ite ?_ ?_
      | refine LeO.bind ?_ (fun _ => ?_)
set_option maxHeartbeats 80000000 in
set_option maxRecDepth 100000 in
theorem abacistref08_Dft.calls (k : Nat) (A0 : Option Addr) (c0 : Nat) (l0 : List Int) (a1 : Int) (a2 : Int) (r : List Int) (w : World) (hr0 : Kd.C (Kd.int .u64) w A0 l0.length l0) (hc0 : l0.length ≤ c0) (h : abacistref08_Dft.f k l0 a1 a2 = some r) :
    Calls Tryd.prog 26 #[.slice A0 l0.length c0, .int .i64 a1, .int .i64 a2] w fun e w' => ∃ v0_ : Value, e = .returned (v0_) ∧ Kd.R (Kd.int .u64) 32 w' w.heap.size (fun _ => True) v0_ r ∧ Below w.heap.size w w' := by
  have HR0 := Aside0.mk hr0
  have HC0 := Aside0.mk hc0
  clear hr0 hc0
  have HB := Aside0.mk (Below.refl w.heap.size w)
  have H : ((abacistref08_Root.f k a1 a2).bind fun t204 => (abacistref08_Dft.l0 k l0 t204 ([] : List Int) 1 0)) = some r := h
  clear h
  replace H := Option.bind_eq_some_iff.mp H
  obtain ⟨t204, A40, H⟩ := H
  replace H : (abacistref08_Dft.l0 k l0 t204 ([] : List Int) 1 0) = some r := H
  have A4 := Aside0.mk A40
  clear A40
  have H' := Aside0.mk H
  clear H
  go_enter Tryd.func26, Tryd.ntmps26
  go_wp2_with (first | ((with_reducible refine gate_callee (f := 17) rfl ?_); refine goesL_ (some 16) rfl rfl Tryd.func17 (by kernel_rfl) rfl #[.int .i64 a1, .int .i64 a2] rfl (by (try simp only [List.map_toArray, List.map_cons, List.map_nil]); first | done | rfl | (simp only [List.length_drop, List.length_take]; rfl)) ?_; (with_reducible refine (abacistref08_Root.calls k a1 a2 t204 _ A4.out).mono ?_); rintro e w' ⟨rfl, ⟨nd, rfl⟩⟩; refine ⟨_, rfl, ?_⟩) | (go_at_call 17; (with_reducible refine (abacistref08_Root.calls k a1 a2 t204 _ A4.out).mono ?_); rintro e w' ⟨rfl, ⟨nd, rfl⟩⟩))
  go_loopg [8, 9, 10] k (fun kq v8 v9 v10 w' => ∃ (x8_1 : List Int) (x9_1 : Int) (x10_1 : Int), v9 = .int .u64 x9_1 ∧ v10 = .int .i64 x10_1 ∧ Aside0 (abacistref08_Dft.l0 kq l0 t204 x8_1 x9_1 x10_1 = some r) ∧ Aside0 (kq ≤ k) ∧ Aside0 (Kd.R (Kd.int .u64) 32 w' w.heap.size (fun _ => True) v8 x8_1) ∧ Aside0 (Below w.heap.size w w'))
  case atStart => exact ⟨(([] : List Int)), (1), (0), (by first | rfl | (simp; done) | (simp [*]; done)), (by first | rfl | (simp; done) | (simp [*]; done)), H', ⟨Nat.le_refl _⟩, ⟨by first | exact Kd.R_nil _ _ _ _ _ | exact Kd.N_nil _ _ _ _ _ | exact Kd.V_nil _ _ _ _ _ | exact Kd.Q_nil _ _ _ _ _ | exact Kd.S_nil _ _ _ _ _⟩, ⟨by repeat (first | (with_reducible first | exact HB.out | apply below_alloc | apply pw_below_drewN | apply below_drew1) | exact HB.out)⟩⟩
  case round =>
    clear H'
    try clear c1
    try clear c2
    try clear p2
    obtain ⟨x8_1, x9_1, x10_1, rfl, rfl, HA, HK1, HO_8, HB⟩ := hrel
    cases gk with
    | zero => exact absurd HA.out (by simp [abacistref08_Dft.l0])
    | succ k1 =>
      have H := HA.out
      clear HA
      simp only [abacistref08_Dft.l0] at H
      by_cases c5 : x10_1 < (l0.length : Int)
      · rw [if_pos c5] at H
        have c5b0 : decide (x10_1 < (l0.length : Int)) = true := decide_eq_true c5
        clear c5
        have H' := Aside0.mk H
        clear H
        go_wp2
        go_loopg [11, 12, 13] k1 (fun kq v11 v12 v13 w' => ∃ (x11_2 : Int) (x12_2 : Int) (x13_2 : Int), v11 = .int .u64 x11_2 ∧ v12 = .int .u64 x12_2 ∧ v13 = .int .i64 x13_2 ∧ Aside0 (abacistref08_Dft.l1 kq l0 t204 x8_1 x9_1 x10_1 x11_2 x12_2 x13_2 = some r) ∧ Aside0 (kq ≤ k1) ∧ Aside0 (Kd.R (Kd.int .u64) 32 w' w.heap.size (fun _ => True) u8 x8_1) ∧ Aside0 (Below w.heap.size w w'))
        case atStart => exact ⟨(0), (1), (0), (by first | rfl | (simp; done) | (simp [*]; done)), (by first | rfl | (simp; done) | (simp [*]; done)), (by first | rfl | (simp; done) | (simp [*]; done)), H', ⟨Nat.le_refl _⟩, ⟨by (with_reducible repeat (first | apply Kd.R_alloc | apply Kd.R_drewN | apply Kd.R_drew)); exact HO_8.out⟩, ⟨by repeat (first | (with_reducible first | exact HB.out | apply below_alloc | apply pw_below_drewN | apply below_drew1) | exact HB.out)⟩⟩
        case round =>
          clear H'
          try clear c1
          try clear c2
          try clear p2
          try clear c5
          try clear c5b0
          try clear p2
          obtain ⟨x11_2, x12_2, x13_2, rfl, rfl, rfl, HA, HK2, HO_8, HB⟩ := hrel
          cases gk with
          | zero => exact absurd HA.out (by simp [abacistref08_Dft.l1])
          | succ k2 =>
            have H := HA.out
            clear HA
            simp only [abacistref08_Dft.l1] at H
            by_cases c6 : x13_2 < (l0.length : Int)
            · rw [if_pos c6] at H
              have c6b0 : decide (x13_2 < (l0.length : Int)) = true := decide_eq_true c6
              clear c6
              by_cases c7 : 0 ≤ x13_2
              · rw [if_pos c7] at H
                have c7b0 : decide (0 ≤ x13_2) = true := decide_eq_true c7
                clear c7
                replace H := Option.bind_eq_some_iff.mp H
                obtain ⟨t206, A80, H⟩ := H
                replace H : ((abacistref02_Add.f x11_2 t206).bind fun t207 => ((abacistref02_Mul.f k2 x12_2 x9_1).bind fun t208 => (abacistref08_Dft.l1 k2 l0 t204 x8_1 x9_1 x10_1 t207 t208 (wrap64 (x13_2 + 1))))) = some r := H
                have A8 := Aside0.mk A80
                clear A80
                replace H := Option.bind_eq_some_iff.mp H
                obtain ⟨t207, A90, H⟩ := H
                replace H : ((abacistref02_Mul.f k2 x12_2 x9_1).bind fun t208 => (abacistref08_Dft.l1 k2 l0 t204 x8_1 x9_1 x10_1 t207 t208 (wrap64 (x13_2 + 1)))) = some r := H
                have A9 := Aside0.mk A90
                clear A90
                replace H := Option.bind_eq_some_iff.mp H
                obtain ⟨t208, A100, H⟩ := H
                replace H : (abacistref08_Dft.l1 k2 l0 t204 x8_1 x9_1 x10_1 t207 t208 (wrap64 (x13_2 + 1))) = some r := H
                have A10 := Aside0.mk A100
                clear A100
                have H' := Aside0.mk H
                clear H
                have p205 : 0 ≤ (x13_2 : Int) := of_decide_eq_true (by first | (with_reducible assumption) | assumption)
                have q205 : x13_2 < (l0.length : Int) := of_decide_eq_true (by first | (with_reducible assumption) | assumption)
                obtain ⟨ad205, e205, hx205_0⟩ := Kd.at_int HR0.out x13_2 p205 q205
                cases e205
                replace hx205_0 := (HB.out.cell (World.block_lt_of_cell? w _ hx205_0)).trans hx205_0
                replace p205 := eq_true p205
                replace q205 := eq_true q205
                go_wp2_with (first | ((with_reducible refine gate_callee (f := 16) rfl ?_); refine goesL_ (some 35) rfl rfl Tryd.func16 (by kernel_rfl) rfl #[.int .u64 (rd l0 x13_2), .int .u64 x12_2] rfl (by (try simp only [List.map_toArray, List.map_cons, List.map_nil]); first | done | rfl | (simp only [List.length_drop, List.length_take]; rfl)) ?_; (with_reducible refine (abacistref02_Mul.calls k2 (rd l0 x13_2) x12_2 t206 _ A8.out).mono ?_); rintro e w' ⟨rfl, ⟨nd, rfl⟩⟩; refine ⟨_, rfl, ?_⟩) | (go_at_call 16; (with_reducible refine (abacistref02_Mul.calls k2 (rd l0 x13_2) x12_2 t206 _ A8.out).mono ?_); rintro e w' ⟨rfl, ⟨nd, rfl⟩⟩) | ((with_reducible refine gate_callee (f := 15) rfl ?_); refine goesL_ (some 36) rfl rfl Tryd.func15 (by kernel_rfl) rfl #[.int .u64 x11_2, .int .u64 t206] rfl (by (try simp only [List.map_toArray, List.map_cons, List.map_nil]); first | done | rfl | (simp only [List.length_drop, List.length_take]; rfl)) ?_; (with_reducible refine (abacistref02_Add.calls x11_2 t206 t207 _ A9.out).mono ?_); rintro e w' ⟨rfl, ⟨nd, rfl⟩⟩; refine ⟨_, rfl, ?_⟩) | (go_at_call 15; (with_reducible refine (abacistref02_Add.calls x11_2 t206 t207 _ A9.out).mono ?_); rintro e w' ⟨rfl, ⟨nd, rfl⟩⟩) | ((with_reducible refine gate_callee (f := 16) rfl ?_); refine goesL_ (some 39) rfl rfl Tryd.func16 (by kernel_rfl) rfl #[.int .u64 x12_2, .int .u64 x9_1] rfl (by (try simp only [List.map_toArray, List.map_cons, List.map_nil]); first | done | rfl | (simp only [List.length_drop, List.length_take]; rfl)) ?_; (with_reducible refine (abacistref02_Mul.calls k2 x12_2 x9_1 t208 _ A10.out).mono ?_); rintro e w' ⟨rfl, ⟨nd, rfl⟩⟩; refine ⟨_, rfl, ?_⟩) | (go_at_call 16; (with_reducible refine (abacistref02_Mul.calls k2 x12_2 x9_1 t208 _ A10.out).mono ?_); rintro e w' ⟨rfl, ⟨nd, rfl⟩⟩))
                (first | go_roundg k2 | (simp only [add_plain] at *; go_roundg k2))
                case measure => have := HK1.out; have := HK2.out; omega
                case rel => exact ⟨(t207), (t208), (wrap64 (x13_2 + 1)), (by first | rfl | (simp; done) | (simp [*]; done)), (by first | rfl | (simp; done) | (simp [*]; done)), (by first | rfl | (simp; done) | (simp [*]; done)), H', ⟨by have := HK1.out; have := HK2.out; omega⟩, ⟨by (with_reducible repeat (first | apply Kd.R_alloc | apply Kd.R_drewN | apply Kd.R_drew)); exact HO_8.out⟩, ⟨by repeat (first | (with_reducible first | exact HB.out | apply below_alloc | apply pw_below_drewN | apply below_drew1) | exact HB.out)⟩⟩
              · rw [if_neg c7] at H
                exact absurd H (by simp)
            · rw [if_neg c6] at H
              have c6b0 : decide (x13_2 < (l0.length : Int)) = false := decide_eq_false c6
              clear c6
              by_cases c11 : x8_1.length < 17592186044416
              · rw [if_pos c11] at H
                have LMc11 := Aside0.mk c11
                clear c11
                obtain ⟨y209, hy209⟩ : ∃ y_ : List Int, y_ = (x8_1 ++ [x11_2]) := ⟨_, rfl⟩
                replace H : ((abacistref02_Mul.f k2 x9_1 t204).bind fun t212 => (abacistref08_Dft.l0 k2 l0 t204 y209 t212 (wrap64 (x10_1 + 1)))) = some r := by first | (rw [hy209]; with_reducible exact H) | (have H2_ := (Option.bind_some _ _).symm.trans H; rw [hy209]; with_reducible exact H2_) | (have H2_ := (Option.bind_some _ _).symm.trans H; with_reducible exact H2_) | with_reducible exact H | (rw [hy209]; exact H) | exact H
                have Ny209 := Aside0.mk hy209
                clear hy209
                replace H := Option.bind_eq_some_iff.mp H
                obtain ⟨t212, A120, H⟩ := H
                replace H : (abacistref08_Dft.l0 k2 l0 t204 y209 t212 (wrap64 (x10_1 + 1))) = some r := H
                have A12 := Aside0.mk A120
                clear A120
                have H' := Aside0.mk H
                clear H
                go_wp2_with (first | ((with_reducible refine gate_builtin (b := .append) (xs := #[.tmp 40, .tmp 42]) rfl ?_); at_builtin; refine Kd.R_append (Kd.int .u64) (w0 := w) w.heap.size rfl (.tmp 40) (.tmp 42) 22 32 (.int .u64 0) 8 rfl Tryd.underlying22 info32 rfl (by decide) (by omega) u8 x8_1 x11_2 [.int .u64 x11_2] (fun _ => True) (fun _ => False) rfl rfl ?aP (fun _ hk => hk.elim) ?aF ?aO ?aB ?aS ?aL ?_; (case aP => exact rfl); (case aB => exact (by repeat (first | (with_reducible first | exact HB.out | apply below_alloc | apply pw_below_drewN | apply below_drew1) | exact HB.out))); (case aF => exact (fun _ _ => trivial)); (case aO => exact (by (with_reducible repeat (first | apply Kd.R_alloc | apply Kd.R_drewN | apply Kd.R_drew)); exact HO_8.out)); (case aS => exact (below_size (by repeat (first | (with_reducible first | exact HB.out | apply below_alloc | apply pw_below_drewN | apply below_drew1) | exact HB.out)))); (case aL => have := LMc11.out; omega); intro v210 w13 ho hb hg hat; rw [← Ny209.out] at ho; have n0_ := Aside0.mk (hb); have n1_ := Aside0.mk (ho); clear HB; clear HO_8; have HB := n0_; have HO211 := n1_; clear n0_ n1_; clear ho hb hg hat) | ((with_reducible refine gate_callee (f := 16) rfl ?_); refine goesL_ (some 46) rfl rfl Tryd.func16 (by kernel_rfl) rfl #[.int .u64 x9_1, .int .u64 t204] rfl (by (try simp only [List.map_toArray, List.map_cons, List.map_nil]); first | done | rfl | (simp only [List.length_drop, List.length_take]; rfl)) ?_; (with_reducible refine (abacistref02_Mul.calls k2 x9_1 t204 t212 _ A12.out).mono ?_); rintro e w' ⟨rfl, ⟨nd, rfl⟩⟩; refine ⟨_, rfl, ?_⟩) | (go_at_call 16; (with_reducible refine (abacistref02_Mul.calls k2 x9_1 t204 t212 _ A12.out).mono ?_); rintro e w' ⟨rfl, ⟨nd, rfl⟩⟩))
                (first | go_roundg k2 | (simp only [add_plain] at *; go_roundg k2))
                case measure => have := HK1.out; have := HK2.out; omega
                case rel => exact ⟨(y209), (t212), (wrap64 (x10_1 + 1)), (by first | rfl | (simp; done) | (simp [*]; done)), (by first | rfl | (simp; done) | (simp [*]; done)), H', ⟨by have := HK1.out; have := HK2.out; omega⟩, ⟨by (with_reducible repeat (first | apply Kd.R_alloc | apply Kd.R_drewN | apply Kd.R_drew)); exact HO211.out⟩, ⟨by repeat (first | (with_reducible first | exact HB.out | apply below_alloc | apply pw_below_drewN | apply below_drew1) | exact HB.out)⟩⟩
              · rw [if_neg c11] at H
                exact absurd H (by simp)
      · rw [if_neg c5] at H
        have c5b0 : decide (x10_1 < (l0.length : Int)) = false := decide_eq_false c5
        clear c5
        obtain rfl := Option.some.inj H
        go_wp2
        go_ret
        exact ⟨_, by first | rfl | (simp [errW_none, errW_some] <;> rfl) | (simp [*, errW_none, errW_some] <;> rfl), by (with_reducible repeat (first | apply Kd.R_alloc | apply Kd.R_drewN | apply Kd.R_drew)); exact HO_8.out, by repeat (first | (with_reducible first | exact HB.out | apply below_alloc | apply pw_below_drewN | apply below_drew1) | exact HB.out)⟩

/-! ### abacistref08_Scale: function 31 -/
def abacistref08_Scale.l0 : Nat → List Int → Int → List Int → Int → Option (List Int)
  | 0, _, _, _, _ => none
  | k + 1, x0, x1, x5, x6 => if x6 < (x0.length : Int) then (if 0 ≤ x6 then ((abacistref02_Mul.f k (rd x0 x6) x1).bind fun t214 => (if x5.length < 17592186044416 then (abacistref08_Scale.l0 k x0 x1 (x5 ++ [t214]) (wrap64 (x6 + 1))) else (none))) else (none)) else (some x5)
def abacistref08_Scale.f (k : Nat) (l0 : List Int) (a1 : Int) : Option (List Int) := abacistref08_Scale.l0 k l0 a1 ([] : List Int) 0
theorem abacistref08_Scale.mono_l : ∀ k, (∀ y0 y1 y2 y3, LeO (abacistref08_Scale.l0 k y0 y1 y2 y3) (abacistref08_Scale.l0 (k + 1) y0 y1 y2 y3))
  | 0 => fun _ _ _ _ r h => by simp [abacistref08_Scale.l0] at h
  | k + 1 => by
    have ih0 := abacistref08_Scale.mono_l k
    · intro y0 y1 y2 y3
      unfold abacistref08_Scale.l0
      repeat' first
      | (with_reducible exact ih0 _ _ _ _)
      | (with_reducible exact abacistref02_Mul.mono _ _ _)
      | (with_reducible exact LeO.refl _)
      | (with_reducible exact LeO.none _)
      | (with_reducible refine LeO.ite ?_ ?_)
      | (with_reducible refine LeO.bind ?_ (fun _ => ?_))
      | exact ih0 _ _ _ _
      | exact abacistref02_Mul.mono _ _ _
      | exact LeO.none _
      | refine LeO.ite ?_ ?_
      | refine LeO.bind ?_ (fun _ => ?_)
theorem abacistref08_Scale.mono : ∀ a0 a1 k, LeO (abacistref08_Scale.f k a0 a1) (abacistref08_Scale.f (k + 1) a0 a1) := by
  intro a0 a1 k
  have ih0 := abacistref08_Scale.mono_l k
  unfold abacistref08_Scale.f
  repeat' first
      | (with_reducible exact ih0 _ _ _ _)
      | (with_reducible exact abacistref02_Mul.mono _ _ _)
      | (with_reducible exact LeO.refl _)
      | (with_reducible exact LeO.none _)
      | (with_reducible refine LeO.ite ?_ ?_)
      | (with_reducible refine LeO.bind ?_ (fun _ => ?_))
      | exact ih0 _ _ _ _
      | exact abacistref02_Mul.mono _ _ _
      | exact LeO.none _
      | refine LeO.ite ?_ ?_
      | refine LeO.bind ?_ (fun _ => ?_)
set_option maxHeartbeats 80000000 in
set_option maxRecDepth 100000 in
theorem abacistref08_Scale.calls (k : Nat) (A0 : Option Addr) (c0 : Nat) (l0 : List Int) (a1 : Int) (r : List Int) (w : World) (hr0 : Kd.C (Kd.int .u64) w A0 l0.length l0) (hc0 : l0.length ≤ c0) (h : abacistref08_Scale.f k l0 a1 = some r) :
    Calls Tryd.prog 31 #[.slice A0 l0.length c0, .int .u64 a1] w fun e w' => ∃ v0_ : Value, e = .returned (v0_) ∧ Kd.R (Kd.int .u64) 32 w' w.heap.size (fun _ => True) v0_ r ∧ Below w.heap.size w w' := by
  have HR0 := Aside0.mk hr0
  have HC0 := Aside0.mk hc0
  clear hr0 hc0
  have HB := Aside0.mk (Below.refl w.heap.size w)
  have H : (abacistref08_Scale.l0 k l0 a1 ([] : List Int) 0) = some r := h
  clear h
  have H' := Aside0.mk H
  clear H
  go_enter Tryd.func31, Tryd.ntmps31
  go_wp2
  go_loopg [5, 6] k (fun kq v5 v6 w' => ∃ (x5_1 : List Int) (x6_1 : Int), v6 = .int .i64 x6_1 ∧ Aside0 (abacistref08_Scale.l0 kq l0 a1 x5_1 x6_1 = some r) ∧ Aside0 (kq ≤ k) ∧ Aside0 (Kd.R (Kd.int .u64) 32 w' w.heap.size (fun _ => True) v5 x5_1) ∧ Aside0 (Below w.heap.size w w'))
  case atStart => exact ⟨(([] : List Int)), (0), (by first | rfl | (simp; done) | (simp [*]; done)), H', ⟨Nat.le_refl _⟩, ⟨by first | exact Kd.R_nil _ _ _ _ _ | exact Kd.N_nil _ _ _ _ _ | exact Kd.V_nil _ _ _ _ _ | exact Kd.Q_nil _ _ _ _ _ | exact Kd.S_nil _ _ _ _ _⟩, ⟨by repeat (first | (with_reducible first | exact HB.out | apply below_alloc | apply pw_below_drewN | apply below_drew1) | exact HB.out)⟩⟩
  case round =>
    clear H'
    try clear p2
    obtain ⟨x5_1, x6_1, rfl, HA, HK1, HO_5, HB⟩ := hrel
    cases gk with
    | zero => exact absurd HA.out (by simp [abacistref08_Scale.l0])
    | succ k1 =>
      have H := HA.out
      clear HA
      simp only [abacistref08_Scale.l0] at H
      by_cases c3 : x6_1 < (l0.length : Int)
      · rw [if_pos c3] at H
        have c3b0 : decide (x6_1 < (l0.length : Int)) = true := decide_eq_true c3
        clear c3
        by_cases c4 : 0 ≤ x6_1
        · rw [if_pos c4] at H
          have c4b0 : decide (0 ≤ x6_1) = true := decide_eq_true c4
          clear c4
          replace H := Option.bind_eq_some_iff.mp H
          obtain ⟨t214, A50, H⟩ := H
          replace H : (if x5_1.length < 17592186044416 then (abacistref08_Scale.l0 k1 l0 a1 (x5_1 ++ [t214]) (wrap64 (x6_1 + 1))) else (none)) = some r := H
          have A5 := Aside0.mk A50
          clear A50
          by_cases c6 : x5_1.length < 17592186044416
          · rw [if_pos c6] at H
            have LMc6 := Aside0.mk c6
            clear c6
            obtain ⟨y215, hy215⟩ : ∃ y_ : List Int, y_ = (x5_1 ++ [t214]) := ⟨_, rfl⟩
            replace H : (abacistref08_Scale.l0 k1 l0 a1 y215 (wrap64 (x6_1 + 1))) = some r := by first | (rw [hy215]; with_reducible exact H) | (have H2_ := (Option.bind_some _ _).symm.trans H; rw [hy215]; with_reducible exact H2_) | (have H2_ := (Option.bind_some _ _).symm.trans H; with_reducible exact H2_) | with_reducible exact H | (rw [hy215]; exact H) | exact H
            have Ny215 := Aside0.mk hy215
            clear hy215
            have H' := Aside0.mk H
            clear H
            have p213 : 0 ≤ (x6_1 : Int) := of_decide_eq_true (by first | (with_reducible assumption) | assumption)
            have q213 : x6_1 < (l0.length : Int) := of_decide_eq_true (by first | (with_reducible assumption) | assumption)
            obtain ⟨ad213, e213, hx213_0⟩ := Kd.at_int HR0.out x6_1 p213 q213
            cases e213
            replace hx213_0 := (HB.out.cell (World.block_lt_of_cell? w _ hx213_0)).trans hx213_0
            replace p213 := eq_true p213
            replace q213 := eq_true q213
            go_wp2_with (first | ((with_reducible refine gate_callee (f := 16) rfl ?_); refine goesL_ (some 19) rfl rfl Tryd.func16 (by kernel_rfl) rfl #[.int .u64 (rd l0 x6_1), .int .u64 a1] rfl (by (try simp only [List.map_toArray, List.map_cons, List.map_nil]); first | done | rfl | (simp only [List.length_drop, List.length_take]; rfl)) ?_; (with_reducible refine (abacistref02_Mul.calls k1 (rd l0 x6_1) a1 t214 _ A5.out).mono ?_); rintro e w' ⟨rfl, ⟨nd, rfl⟩⟩; refine ⟨_, rfl, ?_⟩) | (go_at_call 16; (with_reducible refine (abacistref02_Mul.calls k1 (rd l0 x6_1) a1 t214 _ A5.out).mono ?_); rintro e w' ⟨rfl, ⟨nd, rfl⟩⟩) | ((with_reducible refine gate_builtin (b := .append) (xs := #[.tmp 13, .tmp 20]) rfl ?_); at_builtin; refine Kd.R_append (Kd.int .u64) (w0 := w) w.heap.size rfl (.tmp 13) (.tmp 20) 22 32 (.int .u64 0) 8 rfl Tryd.underlying22 info32 rfl (by decide) (by omega) u5 x5_1 t214 [.int .u64 t214] (fun _ => True) (fun _ => False) rfl rfl ?aP (fun _ hk => hk.elim) ?aF ?aO ?aB ?aS ?aL ?_; (case aP => exact rfl); (case aB => exact (by repeat (first | (with_reducible first | exact HB.out | apply below_alloc | apply pw_below_drewN | apply below_drew1) | exact HB.out))); (case aF => exact (fun _ _ => trivial)); (case aO => exact (by (with_reducible repeat (first | apply Kd.R_alloc | apply Kd.R_drewN | apply Kd.R_drew)); exact HO_5.out)); (case aS => exact (below_size (by repeat (first | (with_reducible first | exact HB.out | apply below_alloc | apply pw_below_drewN | apply below_drew1) | exact HB.out)))); (case aL => have := LMc6.out; omega); intro v216 w7 ho hb hg hat; rw [← Ny215.out] at ho; have n0_ := Aside0.mk (hb); have n1_ := Aside0.mk (ho); clear HB; clear HO_5; have HB := n0_; have HO217 := n1_; clear n0_ n1_; clear ho hb hg hat))
            (first | go_roundg k1 | (simp only [add_plain] at *; go_roundg k1))
            case measure => have := HK1.out; omega
            case rel => exact ⟨(y215), (wrap64 (x6_1 + 1)), (by first | rfl | (simp; done) | (simp [*]; done)), H', ⟨by have := HK1.out; omega⟩, ⟨by (with_reducible repeat (first | apply Kd.R_alloc | apply Kd.R_drewN | apply Kd.R_drew)); exact HO217.out⟩, ⟨by repeat (first | (with_reducible first | exact HB.out | apply below_alloc | apply pw_below_drewN | apply below_drew1) | exact HB.out)⟩⟩
          · rw [if_neg c6] at H
            exact absurd H (by simp)
        · rw [if_neg c4] at H
          exact absurd H (by simp)
      · rw [if_neg c3] at H
        have c3b0 : decide (x6_1 < (l0.length : Int)) = false := decide_eq_false c3
        clear c3
        obtain rfl := Option.some.inj H
        go_wp2
        go_ret
        exact ⟨_, by first | rfl | (simp [errW_none, errW_some] <;> rfl) | (simp [*, errW_none, errW_some] <;> rfl), by (with_reducible repeat (first | apply Kd.R_alloc | apply Kd.R_drewN | apply Kd.R_drew)); exact HO_5.out, by repeat (first | (with_reducible first | exact HB.out | apply below_alloc | apply pw_below_drewN | apply below_drew1) | exact HB.out)⟩

/-! ### abacistref08_Share: function 32 -/
def abacistref08_Share.f (k : Nat) (a0 : Int) : Option (Int) := (abacistref02_Pow.f k 9223372034707292161 (IntKind.u64.wrap (a0))).bind fun t218 => (some t218)
theorem abacistref08_Share.mono : ∀ a0 k, LeO (abacistref08_Share.f k a0) (abacistref08_Share.f (k + 1) a0) := by
  intro a0 k
  unfold abacistref08_Share.f
  repeat' first
      | (with_reducible exact abacistref02_Pow.mono _ _ _)
      | (with_reducible exact LeO.refl _)
      | (with_reducible exact LeO.none _)
      | (with_reducible refine LeO.ite ?_ ?_)
      | (with_reducible refine LeO.bind ?_ (fun _ => ?_))
      | exact abacistref02_Pow.mono _ _ _
      | exact LeO.none _
      | refine LeO.ite ?_ ?_
      | refine LeO.bind ?_ (fun _ => ?_)
set_option maxHeartbeats 8000000 in
set_option maxRecDepth 100000 in
theorem abacistref08_Share.calls (k : Nat) (a0 : Int) (r : Int) (w : World) (h : abacistref08_Share.f k a0 = some r) :
    Calls Tryd.prog 32 #[.int .i64 a0] w fun e w' => e = .returned (.int .u64 r) ∧ Drawn0 w w' := by
  have H : ((abacistref02_Pow.f k 9223372034707292161 (IntKind.u64.wrap (a0))).bind fun t218 => (some t218)) = some r := h
  clear h
  replace H := Option.bind_eq_some_iff.mp H
  obtain ⟨t218, A20, H⟩ := H
  replace H : (some t218) = some r := H
  have A2 := Aside0.mk A20
  clear A20
  obtain rfl := Option.some.inj H
  go_enter Tryd.func32, Tryd.ntmps32
  go_wp2_with (first | ((with_reducible refine gate_callee (f := 35) rfl ?_); refine goesL_ (some 5) rfl rfl Tryd.func35 (by kernel_rfl) rfl #[.int .u64 9223372034707292161, .int .u64 (IntKind.u64.wrap (a0))] rfl (by (try simp only [List.map_toArray, List.map_cons, List.map_nil]); first | done | rfl | (simp only [List.length_drop, List.length_take]; rfl)) ?_; (with_reducible refine (abacistref02_Pow.calls k 9223372034707292161 (IntKind.u64.wrap (a0)) t218 _ A2.out).mono ?_); rintro e w' ⟨rfl, ⟨nd, rfl⟩⟩; refine ⟨_, rfl, ?_⟩))
  go_ret
  exact ⟨by first | rfl | (simp; done) | (simp [*]; done), by repeat (first | exact Drawn0.refl _ | apply Drawn0.step)⟩

/-! ### abacistref08_Transform: function 13 -/
def abacistref08_Transform.f (k : Nat) (l0 : List Int) (a1 : Int) (a2 : Int) : Option (List Int) := (abacistref08_Dft.f k l0 a1 a2).bind fun t219 => (if a2 = 1 then ((abacistref08_Share.f k a1).bind fun t222 => ((abacistref08_Scale.f k t219 t222).bind fun t223 => (some t223))) else (some t219))
theorem abacistref08_Transform.mono : ∀ a0 a1 a2 k, LeO (abacistref08_Transform.f k a0 a1 a2) (abacistref08_Transform.f (k + 1) a0 a1 a2) := by
  intro a0 a1 a2 k
  unfold abacistref08_Transform.f
  repeat' first
      | (with_reducible exact abacistref08_Dft.mono _ _ _ _)
      | (with_reducible exact abacistref08_Scale.mono _ _ _)
      | (with_reducible exact abacistref08_Share.mono _ _)
      | (with_reducible exact LeO.refl _)
      | (with_reducible exact LeO.none _)
      | (with_reducible refine LeO.ite ?_ ?_)
      | (with_reducible refine LeO.bind ?_ (fun _ => ?_))
      | exact abacistref08_Dft.mono _ _ _ _
      | exact abacistref08_Scale.mono _ _ _
      | exact abacistref08_Share.mono _ _
      | exact LeO.none _
      | refine LeO.ite ?_ ?_
      | refine LeO.bind ?_ (fun _ => ?_)
set_option maxHeartbeats 8000000 in
set_option maxRecDepth 100000 in
theorem abacistref08_Transform.calls (k : Nat) (A0 : Option Addr) (c0 : Nat) (l0 : List Int) (a1 : Int) (a2 : Int) (r : List Int) (w : World) (hr0 : Kd.C (Kd.int .u64) w A0 l0.length l0) (hc0 : l0.length ≤ c0) (h : abacistref08_Transform.f k l0 a1 a2 = some r) :
    Calls Tryd.prog 13 #[.slice A0 l0.length c0, .int .i64 a1, .int .i64 a2] w fun e w' => ∃ v0_ : Value, e = .returned (v0_) ∧ Kd.R (Kd.int .u64) 32 w' w.heap.size (fun _ => True) v0_ r ∧ Below w.heap.size w w' := by
  have HR0 := Aside0.mk hr0
  have HC0 := Aside0.mk hc0
  clear hr0 hc0
  have HB := Aside0.mk (Below.refl w.heap.size w)
  have H : ((abacistref08_Dft.f k l0 a1 a2).bind fun t219 => (if a2 = 1 then ((abacistref08_Share.f k a1).bind fun t222 => ((abacistref08_Scale.f k t219 t222).bind fun t223 => (some t223))) else (some t219))) = some r := h
  clear h
  replace H := Option.bind_eq_some_iff.mp H
  obtain ⟨t219, A40, H⟩ := H
  replace H : (if a2 = 1 then ((abacistref08_Share.f k a1).bind fun t222 => ((abacistref08_Scale.f k t219 t222).bind fun t223 => (some t223))) else (some t219)) = some r := H
  have A4 := Aside0.mk A40
  clear A40
  by_cases c5 : a2 = 1
  · rw [if_pos c5] at H
    have c5b0 : (a2 == 1) = true := beq_iff_eq.mpr c5
    have c5b1 : (a2 != 1) = false := bne_eq_false_iff_eq.mpr c5
    clear c5
    replace H := Option.bind_eq_some_iff.mp H
    obtain ⟨t222, A60, H⟩ := H
    replace H : ((abacistref08_Scale.f k t219 t222).bind fun t223 => (some t223)) = some r := H
    have A6 := Aside0.mk A60
    clear A60
    replace H := Option.bind_eq_some_iff.mp H
    obtain ⟨t223, A70, H⟩ := H
    replace H : (some t223) = some r := H
    have A7 := Aside0.mk A70
    clear A70
    obtain rfl := Option.some.inj H
    go_enter Tryd.func13, Tryd.ntmps13
    go_wp2_with (first | ((with_reducible refine gate_callee (f := 26) rfl ?_); refine goesL_ (some 11) rfl rfl Tryd.func26 (by kernel_rfl) rfl #[.slice A0 l0.length c0, .int .i64 a1, .int .i64 a2] rfl (by (try simp only [List.map_toArray, List.map_cons, List.map_nil]); first | done | rfl | (simp only [List.length_drop, List.length_take]; rfl)) ?_; (with_reducible refine (abacistref08_Dft.calls k _ _ l0 a1 a2 t219 _ ?side1 ?side2 A4.out).mono ?_); (case side1 => repeat (first | exact HR0.out | (with_reducible refine Kd.C_alloc ?_ _) | (with_reducible refine Kd.C_drewN ?_ _) | (with_reducible refine Kd.C_drew ?_))); (case side2 => exact HC0.out); rintro e w8 ⟨v220, rfl, ho0, hb⟩; refine ⟨_, rfl, ?_⟩; have n0_ := Aside0.mk (Kd.R_lower ho0 (below_size (by repeat (first | (with_reducible first | exact HB.out | apply below_alloc | apply pw_below_drewN | apply below_drew1) | exact HB.out)))); have n1_ := Aside0.mk (below_step (by repeat (first | (with_reducible first | exact HB.out | apply below_alloc | apply pw_below_drewN | apply below_drew1) | exact HB.out)) hb); clear HB; have HO221 := n0_; have HB := n1_; clear n0_ n1_; (try clear hb); (try clear hb2); (try clear hk); (try clear hi); (try clear ho0)) | ((with_reducible refine gate_callee (f := 32) rfl ?_); refine goesL_ (some 16) rfl rfl Tryd.func32 (by kernel_rfl) rfl #[.int .i64 a1] rfl (by (try simp only [List.map_toArray, List.map_cons, List.map_nil]); first | done | rfl | (simp only [List.length_drop, List.length_take]; rfl)) ?_; (with_reducible refine (abacistref08_Share.calls k a1 t222 _ A6.out).mono ?_); rintro e w' ⟨rfl, ⟨nd, rfl⟩⟩; refine ⟨_, rfl, ?_⟩; obtain ⟨Ao9, co9, eo9⟩ := Kd.R_slice HO221.out; subst eo9) | ((with_reducible refine gate_callee (f := 31) rfl ?_); refine goesL_ (some 17) rfl rfl Tryd.func31 (by kernel_rfl) rfl #[.slice Ao9 t219.length co9, .int .u64 t222] rfl (by (try simp only [List.map_toArray, List.map_cons, List.map_nil]); first | done | rfl | (simp only [List.length_drop, List.length_take]; rfl)) ?_; (with_reducible refine (abacistref08_Scale.calls k _ _ t219 t222 t223 _ ?side1 ?side2 A7.out).mono ?_); (case side1 => repeat (first | exact (Kd.R_reads' HO221.out).2.2 | (with_reducible refine Kd.C_alloc ?_ _) | (with_reducible refine Kd.C_drewN ?_ _) | (with_reducible refine Kd.C_drew ?_))); (case side2 => exact (Kd.R_reads' HO221.out).2.1); rintro e w10 ⟨v224, rfl, ho0, hb⟩; refine ⟨_, rfl, ?_⟩; have n0_ := Aside0.mk (Kd.R_elder' (by (with_reducible repeat (first | apply Kd.R_alloc | apply Kd.R_drewN | apply Kd.R_drew)); exact HO221.out) (Kd.R_base ho0) hb); have n1_ := Aside0.mk (Kd.R_lower (Kd.R_new' ho0 (Kd.R_lt (by (with_reducible repeat (first | apply Kd.R_alloc | apply Kd.R_drewN | apply Kd.R_drew)); exact HO221.out))) (below_size (by repeat (first | (with_reducible first | exact HB.out | apply below_alloc | apply pw_below_drewN | apply below_drew1) | exact HB.out)))); have n2_ := Aside0.mk (below_step (by repeat (first | (with_reducible first | exact HB.out | apply below_alloc | apply pw_below_drewN | apply below_drew1) | exact HB.out)) hb); clear HO221; clear HB; have HO221 := n0_; have HO225 := n1_; have HB := n2_; clear n0_ n1_ n2_; (try clear hb); (try clear hb2); (try clear hk); (try clear hi); (try clear ho0)))
    go_ret
    exact ⟨_, by first | rfl | (simp [errW_none, errW_some] <;> rfl) | (simp [*, errW_none, errW_some] <;> rfl), by (with_reducible repeat (first | apply Kd.R_alloc | apply Kd.R_drewN | apply Kd.R_drew)); exact Kd.R_mono HO225.out (fun _ hk => trivial), by repeat (first | (with_reducible first | exact HB.out | apply below_alloc | apply pw_below_drewN | apply below_drew1) | exact HB.out)⟩
  · rw [if_neg c5] at H
    have c5b0 : (a2 == 1) = false := beq_eq_false_iff_ne.mpr c5
    have c5b1 : (a2 != 1) = true := bne_iff_ne.mpr c5
    obtain rfl := Option.some.inj H
    go_enter Tryd.func13, Tryd.ntmps13
    go_wp2_with (first | ((with_reducible refine gate_callee (f := 26) rfl ?_); refine goesL_ (some 11) rfl rfl Tryd.func26 (by kernel_rfl) rfl #[.slice A0 l0.length c0, .int .i64 a1, .int .i64 a2] rfl (by (try simp only [List.map_toArray, List.map_cons, List.map_nil]); first | done | rfl | (simp only [List.length_drop, List.length_take]; rfl)) ?_; (with_reducible refine (abacistref08_Dft.calls k _ _ l0 a1 a2 t219 _ ?side1 ?side2 A4.out).mono ?_); (case side1 => repeat (first | exact HR0.out | (with_reducible refine Kd.C_alloc ?_ _) | (with_reducible refine Kd.C_drewN ?_ _) | (with_reducible refine Kd.C_drew ?_))); (case side2 => exact HC0.out); rintro e w11 ⟨v220, rfl, ho0, hb⟩; refine ⟨_, rfl, ?_⟩; have n0_ := Aside0.mk (Kd.R_lower ho0 (below_size (by repeat (first | (with_reducible first | exact HB.out | apply below_alloc | apply pw_below_drewN | apply below_drew1) | exact HB.out)))); have n1_ := Aside0.mk (below_step (by repeat (first | (with_reducible first | exact HB.out | apply below_alloc | apply pw_below_drewN | apply below_drew1) | exact HB.out)) hb); clear HB; have HO221 := n0_; have HB := n1_; clear n0_ n1_; (try clear hb); (try clear hb2); (try clear hk); (try clear hi); (try clear ho0)))
    go_ret
    exact ⟨_, by first | rfl | (simp [errW_none, errW_some] <;> rfl) | (simp [*, errW_none, errW_some] <;> rfl), by (with_reducible repeat (first | apply Kd.R_alloc | apply Kd.R_drewN | apply Kd.R_drew)); exact HO221.out, by repeat (first | (with_reducible first | exact HB.out | apply below_alloc | apply pw_below_drewN | apply below_drew1) | exact HB.out)⟩

/-! ### kern2_Kernel_K: function 23 (by hand) -/
theorem hk_kern2_K.calls (b2 : Nat) (x0 x1 x2 : Value) (k : Int) (w : World) (hX : w.heap[b2]? = some (.cells #[x0, x1, x2, .int .i64 k] 59 (0, 0))) :
    Calls Tryd.prog 23 #[.pointer (some ⟨b2, 0, none⟩)] w fun e w' => e = .returned (.int .i64 k) ∧ Drawn0 w w' := by
  have hc := hk_blk_cell hX 3 _ rfl
  clear hX
  go_enter Tryd.func23, Tryd.ntmps23
  go_wp2
  go_ret
  exact ⟨rfl, by repeat (first | exact Drawn0.refl _ | apply Drawn0.step)⟩

/-! ### abacistlaw09_HalvesRun: function 7 (by hand) -/
theorem hk_same_at (k : Nat) (A0 : Option Addr) (c0 m0 : Nat) (l0 : List Int) (A1 : Option Addr) (c1 m1 : Nat) (l1 : List Int) (r : Bool) (w : World) (h0 : m0 = l0.length) (h1 : m1 = l1.length) (hr0 : Kd.C (Kd.int .u64) w A0 l0.length l0) (hc0 : l0.length ≤ c0) (hr1 : Kd.C (Kd.int .u64) w A1 l1.length l1) (hc1 : l1.length ≤ c1) (h : abacistref04_Same.f k l0 l1 = some r) :
    Calls Tryd.prog 12 #[.slice A0 m0 c0, .slice A1 m1 c1] w fun e w' => e = .returned (.bool r) ∧ Drawn0 w w' := by
  subst h0 h1
  exact abacistref04_Same.calls k A0 c0 l0 A1 c1 l1 r w hr0 hc0 hr1 hc1 h
/-- What the law asks, case by case. -/
def hk_HR (n : Nat) (l : List Int) (kk dir : Int) (plain : Bool) : Prop := abacistlaw09_awake.f n = some true ∧ (
  32 < l.length ∨ (l.length ≤ 32 ∧ 6 < kk ∧ kk ≤ 20) ∨ (l.length ≤ 32 ∧ (kk < 0 ∨ 20 < kk)) ∨
  (l.length ≤ 32 ∧ ∃ k : Nat, kk = (k : Int) ∧ k ≤ 6 ∧ ∃ (t0 t1 : List Int) (s : Int), hk_tabs2 n k t0 t1 s ∧
    ((∃ er, hk_err k l.length dir er ∧ abacistref04_Same.f n l l = some true) ∨
     (∃ rr want, hk_run2 n k t0 t1 s dir false l rr ∧ abacistref08_Transform.f n l (k : Int) dir = some want ∧
       ((plain = false ∧ abacistref04_Same.f n rr want = some true) ∨ (plain = true ∧ ∃ r df, hk_run2 n k t0 t1 s dir true l r ∧ abacistref08_Dft.f n l (k : Int) dir = some df ∧ abacistref04_Same.f n r df = some true))))))
set_option maxHeartbeats 8000000 in
set_option maxRecDepth 100000 in
theorem hk_HR.long (n : Nat) (A0 : Option Addr) (c0 : Nat) (l : List Int) (kk dir : Int) (plain : Bool) (w : World) (hG : Aside0 (TzTab w)) (hr0 : Kd.C (Kd.int .u64) w A0 l.length l) (hc0 : l.length ≤ c0) (hA : abacistlaw09_awake.f n = some true) (h : 32 < l.length ∨ (l.length ≤ 32 ∧ 6 < kk ∧ kk ≤ 20)) :
    Calls Tryd.prog 7 #[.slice A0 l.length c0, .int .i64 kk, .int .i64 dir, .bool plain] w fun e w' => e = .returned (.bool true) ∧ Below w.heap.size w w' := by
  have AW := Aside0.mk hA
  clear hA
  rcases h with h | ⟨h, h1, h2⟩
  · have d1 : decide (32 < (l.length : Int)) = true := decide_eq_true (by omega)
    have d1b : decide (32 < l.length) = true := decide_eq_true h
    have d1c : (32 < l.length) = True := eq_true h
    clear h
    go_enter Tryd.func7, Tryd.ntmps7
    go_wp2_with ((go_at_call 9; (with_reducible refine (abacistlaw09_awake.calls n true _ hG AW.out).mono ?_); rintro e w1 ⟨rfl, hb1⟩; have hb1 := Aside0.mk hb1))
    go_ret
    exact ⟨rfl, hb1.out⟩
  · have d1 : decide (32 < (l.length : Int)) = false := decide_eq_false (by omega)
    have d1c : (32 < l.length) = False := eq_false (by omega)
    have d2 : decide (6 < kk) = true := decide_eq_true h1
    have d3 : decide (kk ≤ 20) = true := decide_eq_true h2
    clear h h1 h2
    go_enter Tryd.func7, Tryd.ntmps7
    go_wp2_with ((go_at_call 9; (with_reducible refine (abacistlaw09_awake.calls n true _ hG AW.out).mono ?_); rintro e w1 ⟨rfl, hb1⟩; have hb1 := Aside0.mk hb1))
    go_ret
    exact ⟨rfl, hb1.out⟩
set_option maxHeartbeats 8000000 in
set_option maxRecDepth 100000 in
theorem hk_HR.none (n : Nat) (A0 : Option Addr) (c0 : Nat) (l : List Int) (kk dir : Int) (plain : Bool) (w : World) (hG : Aside0 (TzTab w)) (hr0 : Kd.C (Kd.int .u64) w A0 l.length l) (hc0 : l.length ≤ c0) (hA : abacistlaw09_awake.f n = some true) (h : l.length ≤ 32) (hk : kk < 0 ∨ 20 < kk) :
    Calls Tryd.prog 7 #[.slice A0 l.length c0, .int .i64 kk, .int .i64 dir, .bool plain] w fun e w' => e = .returned (.bool true) ∧ Below w.heap.size w w' := by
  have AW := Aside0.mk hA
  have HN := Aside0.mk hk
  have d1 : decide (32 < (l.length : Int)) = false := decide_eq_false (by omega)
  have d1c : (32 < l.length) = False := eq_false (by omega)
  clear hA h
  rcases hk with hk | hk
  · have d2 : decide (6 < kk) = false := decide_eq_false (by omega)
    have d4 : decide (kk < 0) = true := decide_eq_true hk
    clear hk
    go_enter Tryd.func7, Tryd.ntmps7
    go_wp2_with (first | (go_at_call 9; (with_reducible refine (abacistlaw09_awake.calls n true _ hG AW.out).mono ?_); rintro e w1 ⟨rfl, hb1⟩; have hb1 := Aside0.mk hb1) | (go_at_call 22; (with_reducible refine (kern2_New.none kk _ HN.out).mono ?_); rintro e w2 ⟨rfl, hb2_⟩; have hb2 := Aside0.mk (hb1.out.trans ((hk_drawn_below hb2_).mono hb1.out.size)); clear hb2_))
    go_ret
    exact ⟨rfl, hb2.out⟩
  · have d2 : decide (6 < kk) = true := decide_eq_true (by omega)
    have d3 : decide (kk ≤ 20) = false := decide_eq_false (by omega)
    have d4 : decide (kk < 0) = false := decide_eq_false (by omega)
    have d5 : decide (20 < kk) = true := decide_eq_true hk
    clear hk
    go_enter Tryd.func7, Tryd.ntmps7
    go_wp2_with (first | (go_at_call 9; (with_reducible refine (abacistlaw09_awake.calls n true _ hG AW.out).mono ?_); rintro e w1 ⟨rfl, hb1⟩; have hb1 := Aside0.mk hb1) | (go_at_call 22; (with_reducible refine (kern2_New.none kk _ HN.out).mono ?_); rintro e w2 ⟨rfl, hb2_⟩; have hb2 := Aside0.mk (hb1.out.trans ((hk_drawn_below hb2_).mono hb1.out.size)); clear hb2_))
    go_ret
    exact ⟨rfl, hb2.out⟩
set_option maxHeartbeats 8000000 in
set_option maxRecDepth 100000 in
theorem hk_HR.err_false (n : Nat) (A0 : Option Addr) (c0 : Nat) (l : List Int) (dir : Int) (w : World) (hG : Aside0 (TzTab w)) (hr0 : Kd.C (Kd.int .u64) w A0 l.length l) (hc0 : l.length ≤ c0) (hA : abacistlaw09_awake.f n = some true) (h32 : l.length ≤ 32) (k : Nat) (hk : k ≤ 6) (t0 t1 : List Int) (s : Int) (hT : hk_tabs2 n k t0 t1 s) (er : Int) (hE : hk_err k l.length dir er) (hn : (dir = 0 ∨ dir = 1) → l.length ≠ 2 ^ k) (hS : abacistref04_Same.f n l l = some true) :
    Calls Tryd.prog 7 #[.slice A0 l.length c0, .int .i64 (k : Int), .int .i64 dir, .bool false] w fun e w' => e = .returned (.bool true) ∧ Below w.heap.size w w' := by
  have AW := Aside0.mk hA
  have HR0 := Aside0.mk hr0
  have HC0 := Aside0.mk hc0
  have HK := Aside0.mk hk
  have HTB := Aside0.mk hT
  have HL := Aside0.mk h32
  have d1 : decide (32 < (l.length : Int)) = false := decide_eq_false (by omega)
  have d1c : (32 < l.length) = False := eq_false (by omega)
  have d2 : decide (6 < (k : Int)) = false := decide_eq_false (by omega)
  have d2c : (6 < k) = False := eq_false (by omega)
  have d4 : decide ((k : Int) < 0) = false := decide_eq_false (by omega)
  have d5 : decide (20 < (k : Int)) = false := decide_eq_false (by omega)
  have d5c : (20 < k) = False := eq_false (by omega)
  have hs := hk_shl_k (k := k) (by omega)
  have HE := Aside0.mk hE
  have SM := Aside0.mk hS
  clear hA hr0 hc0 hk hT h32 hS
  rcases hE with ⟨hm, rfl⟩ | ⟨hm, hd, rfl⟩
  · have hcond : ((l.length : Int) != wrap64 (2 ^ min (IntKind.u64.wrap (k : Int)).toNat 64)) = true := by rw [hs]; exact bne_iff_ne.2 (by omega)
    clear hs hm hn
    go_enter Tryd.func7, Tryd.ntmps7
    go_wp2_with (first | (go_at_call 9; (with_reducible refine (abacistlaw09_awake.calls n true _ hG AW.out).mono ?_); rintro e w1 ⟨rfl, hb1⟩; have hb1 := Aside0.mk hb1) | (go_at_call 22; (with_reducible refine (hk_New2.at n k t0 t1 s _ (Nat.le_trans HK.out (by decide)) HTB.out).mono ?_); rintro e w2 ⟨b, rfl, hb2_, hk2⟩; have HB := Aside0.mk (hb1.out.trans (hb2_.mono hb1.out.size)); have H2 := Aside0.mk (Below.refl w2.heap.size w2); have K4 := Aside0.mk hk2; obtain ⟨v0, v1, hX2_⟩ := hk_K2.inner hk2; have hG2 := Aside0.mk (hG.out.below HB.out); have HX2 := Aside0.mk hX2_; have HRL := Aside0.mk (Kd.C_below HR0.out HB.out); clear hb2_ hk2 hX2_ hb1 HR0) | (go_at_call 23; (with_reducible refine (hk_kern2_K.calls b v0 v1 _ (k : Int) _ HX2.out).mono ?_); rintro e w3 ⟨rfl, hb3_⟩; have n1_ := Aside0.mk (H2.out.trans ((hk_drawn_below hb3_).mono H2.out.size)); clear H2; have H2 := n1_; clear n1_; clear HX2 hb3_) | ((with_reducible refine gate_dst (N := 44) rfl ?_); refine Kd.R_lit (Kd.int .u64) w2.heap.size 32 ?hg (N := 44) ?hd (xs := ([] : List Int)) (inner := []) (ok := fun _ => True) (okp := fun _ => True) ?hr ?hp (fun _ hk => hk) trivial H2.out H2.out.size (by simp) ?_; (case hd => rfl); (case hg => rfl); (case hr => first | (go_simp; done) | (go_simp; rfl)); (case hp => exact (Reps.none _ _)); intro vqm wqm ho2 hb2_ hg_ hnew_; clear hg_ hnew_; have oqm := Aside0.mk ho2; have n1_ := Aside0.mk (hb2_); clear H2; have H2 := n1_; clear n1_; clear ho2 hb2_) | ((with_reducible refine gate_builtin (b := .append) (xs := #[.tmp 44, .tmp 45]) rfl ?_); at_builtin; refine Kd.R_append_rows (Kd.int .u64) (w0 := w2) w2.heap.size rfl (.tmp 44) (.tmp 45) 22 32 (.int .u64 0) 8 rfl Tryd.underlying22 info32 rfl (by decide) (by omega) vqm [] l _ _ _ (fun _ => True) (fun _ => False) rfl rfl oqm.out (Kd.C_below HRL.out H2.out) (fun _ _ h => h) (fun _ h => h.elim) (fun _ _ => trivial) H2.out H2.out.size ?aL ?_; (case aL => have := HL.out; simp only [List.length_nil]; omega); intro vm wrm ho3 hb3_ hg_ hat_; rw [List.nil_append] at ho3; have Rm := Aside0.mk ho3; have n1_ := Aside0.mk (hb3_); clear H2; have H2 := n1_; clear n1_; clear oqm ho3 hb3_ hg_ hat_; obtain ⟨Am, cm, em⟩ := Kd.R_slice Rm.out; subst em) | (go_at_call 24; (with_reducible refine (kern2_Run.err k (Nat.le_trans HK.out (by decide)) t0 t1 s _ _ b Am l.length cm dir _ _ (K4.out.below H2.out) HE.out).mono ?_); rintro e w4 ⟨rfl, hb3_⟩; have r_ := Aside0.mk (Kd.R_below Rm.out (hk_drawn_below hb3_)); clear Rm; have Rm := r_; clear r_; have n1_ := Aside0.mk (H2.out.trans ((hk_drawn_below hb3_).mono H2.out.size)); clear H2; have H2 := n1_; clear n1_; clear hb3_) | (go_at_call 12; (with_reducible refine (hk_same_at n Am cm l.length l A0 c0 l.length l true _ rfl rfl (Kd.R_reads' Rm.out).2.2 (Kd.R_reads' Rm.out).2.1 (Kd.C_below HRL.out H2.out) HC0.out SM.out).mono ?_); rintro e w6 ⟨rfl, hb3_⟩; have n1_ := Aside0.mk (H2.out.trans ((hk_drawn_below hb3_).mono H2.out.size)); clear H2; have H2 := n1_; clear n1_; clear hb3_))
    go_ret
    exact ⟨rfl, HB.out.trans (H2.out.mono HB.out.size)⟩
  · have hcond : ((l.length : Int) != wrap64 (2 ^ min (IntKind.u64.wrap (k : Int)).toNat 64)) = false := by rw [hs, hm]; exact bne_self_eq_false _
    have hd0 : (dir != 0) = true := bne_iff_ne.2 (by omega)
    have hd1 : (dir != 1) = true := bne_iff_ne.2 (by omega)
    clear hs hm hn hd
    go_enter Tryd.func7, Tryd.ntmps7
    go_wp2_with (first | (go_at_call 9; (with_reducible refine (abacistlaw09_awake.calls n true _ hG AW.out).mono ?_); rintro e w1 ⟨rfl, hb1⟩; have hb1 := Aside0.mk hb1) | (go_at_call 22; (with_reducible refine (hk_New2.at n k t0 t1 s _ (Nat.le_trans HK.out (by decide)) HTB.out).mono ?_); rintro e w2 ⟨b, rfl, hb2_, hk2⟩; have HB := Aside0.mk (hb1.out.trans (hb2_.mono hb1.out.size)); have H2 := Aside0.mk (Below.refl w2.heap.size w2); have K4 := Aside0.mk hk2; obtain ⟨v0, v1, hX2_⟩ := hk_K2.inner hk2; have hG2 := Aside0.mk (hG.out.below HB.out); have HX2 := Aside0.mk hX2_; have HRL := Aside0.mk (Kd.C_below HR0.out HB.out); clear hb2_ hk2 hX2_ hb1 HR0) | (go_at_call 23; (with_reducible refine (hk_kern2_K.calls b v0 v1 _ (k : Int) _ HX2.out).mono ?_); rintro e w3 ⟨rfl, hb3_⟩; have n1_ := Aside0.mk (H2.out.trans ((hk_drawn_below hb3_).mono H2.out.size)); clear H2; have H2 := n1_; clear n1_; clear HX2 hb3_) | ((with_reducible refine gate_dst (N := 44) rfl ?_); refine Kd.R_lit (Kd.int .u64) w2.heap.size 32 ?hg (N := 44) ?hd (xs := ([] : List Int)) (inner := []) (ok := fun _ => True) (okp := fun _ => True) ?hr ?hp (fun _ hk => hk) trivial H2.out H2.out.size (by simp) ?_; (case hd => rfl); (case hg => rfl); (case hr => first | (go_simp; done) | (go_simp; rfl)); (case hp => exact (Reps.none _ _)); intro vqm wqm ho2 hb2_ hg_ hnew_; clear hg_ hnew_; have oqm := Aside0.mk ho2; have n1_ := Aside0.mk (hb2_); clear H2; have H2 := n1_; clear n1_; clear ho2 hb2_) | ((with_reducible refine gate_builtin (b := .append) (xs := #[.tmp 44, .tmp 45]) rfl ?_); at_builtin; refine Kd.R_append_rows (Kd.int .u64) (w0 := w2) w2.heap.size rfl (.tmp 44) (.tmp 45) 22 32 (.int .u64 0) 8 rfl Tryd.underlying22 info32 rfl (by decide) (by omega) vqm [] l _ _ _ (fun _ => True) (fun _ => False) rfl rfl oqm.out (Kd.C_below HRL.out H2.out) (fun _ _ h => h) (fun _ h => h.elim) (fun _ _ => trivial) H2.out H2.out.size ?aL ?_; (case aL => have := HL.out; simp only [List.length_nil]; omega); intro vm wrm ho3 hb3_ hg_ hat_; rw [List.nil_append] at ho3; have Rm := Aside0.mk ho3; have n1_ := Aside0.mk (hb3_); clear H2; have H2 := n1_; clear n1_; clear oqm ho3 hb3_ hg_ hat_; obtain ⟨Am, cm, em⟩ := Kd.R_slice Rm.out; subst em) | (go_at_call 24; (with_reducible refine (kern2_Run.err k (Nat.le_trans HK.out (by decide)) t0 t1 s _ _ b Am l.length cm dir _ _ (K4.out.below H2.out) HE.out).mono ?_); rintro e w4 ⟨rfl, hb3_⟩; have r_ := Aside0.mk (Kd.R_below Rm.out (hk_drawn_below hb3_)); clear Rm; have Rm := r_; clear r_; have n1_ := Aside0.mk (H2.out.trans ((hk_drawn_below hb3_).mono H2.out.size)); clear H2; have H2 := n1_; clear n1_; clear hb3_) | (go_at_call 12; (with_reducible refine (hk_same_at n Am cm l.length l A0 c0 l.length l true _ rfl rfl (Kd.R_reads' Rm.out).2.2 (Kd.R_reads' Rm.out).2.1 (Kd.C_below HRL.out H2.out) HC0.out SM.out).mono ?_); rintro e w6 ⟨rfl, hb3_⟩; have n1_ := Aside0.mk (H2.out.trans ((hk_drawn_below hb3_).mono H2.out.size)); clear H2; have H2 := n1_; clear n1_; clear hb3_))
    go_ret
    exact ⟨rfl, HB.out.trans (H2.out.mono HB.out.size)⟩
set_option maxHeartbeats 8000000 in
set_option maxRecDepth 100000 in
theorem hk_HR.err_true (n : Nat) (A0 : Option Addr) (c0 : Nat) (l : List Int) (dir : Int) (w : World) (hG : Aside0 (TzTab w)) (hr0 : Kd.C (Kd.int .u64) w A0 l.length l) (hc0 : l.length ≤ c0) (hA : abacistlaw09_awake.f n = some true) (h32 : l.length ≤ 32) (k : Nat) (hk : k ≤ 6) (t0 t1 : List Int) (s : Int) (hT : hk_tabs2 n k t0 t1 s) (er : Int) (hE : hk_err k l.length dir er) (hn : (dir = 0 ∨ dir = 1) → l.length ≠ 2 ^ k) (hS : abacistref04_Same.f n l l = some true) :
    Calls Tryd.prog 7 #[.slice A0 l.length c0, .int .i64 (k : Int), .int .i64 dir, .bool true] w fun e w' => e = .returned (.bool true) ∧ Below w.heap.size w w' := by
  have AW := Aside0.mk hA
  have HR0 := Aside0.mk hr0
  have HC0 := Aside0.mk hc0
  have HK := Aside0.mk hk
  have HTB := Aside0.mk hT
  have HL := Aside0.mk h32
  have d1 : decide (32 < (l.length : Int)) = false := decide_eq_false (by omega)
  have d1c : (32 < l.length) = False := eq_false (by omega)
  have d2 : decide (6 < (k : Int)) = false := decide_eq_false (by omega)
  have d2c : (6 < k) = False := eq_false (by omega)
  have d4 : decide ((k : Int) < 0) = false := decide_eq_false (by omega)
  have d5 : decide (20 < (k : Int)) = false := decide_eq_false (by omega)
  have d5c : (20 < k) = False := eq_false (by omega)
  have hs := hk_shl_k (k := k) (by omega)
  have HE := Aside0.mk hE
  have SM := Aside0.mk hS
  clear hA hr0 hc0 hk hT h32 hS
  rcases hE with ⟨hm, rfl⟩ | ⟨hm, hd, rfl⟩
  · have hcond : ((l.length : Int) != wrap64 (2 ^ min (IntKind.u64.wrap (k : Int)).toNat 64)) = true := by rw [hs]; exact bne_iff_ne.2 (by omega)
    clear hs hm hn
    go_enter Tryd.func7, Tryd.ntmps7
    go_wp2_with (first | (go_at_call 9; (with_reducible refine (abacistlaw09_awake.calls n true _ hG AW.out).mono ?_); rintro e w1 ⟨rfl, hb1⟩; have hb1 := Aside0.mk hb1) | (go_at_call 22; (with_reducible refine (hk_New2.at n k t0 t1 s _ (Nat.le_trans HK.out (by decide)) HTB.out).mono ?_); rintro e w2 ⟨b, rfl, hb2_, hk2⟩; have HB := Aside0.mk (hb1.out.trans (hb2_.mono hb1.out.size)); have H2 := Aside0.mk (Below.refl w2.heap.size w2); have K4 := Aside0.mk hk2; obtain ⟨v0, v1, hX2_⟩ := hk_K2.inner hk2; have hG2 := Aside0.mk (hG.out.below HB.out); have HX2 := Aside0.mk hX2_; have HRL := Aside0.mk (Kd.C_below HR0.out HB.out); clear hb2_ hk2 hX2_ hb1 HR0) | (go_at_call 23; (with_reducible refine (hk_kern2_K.calls b v0 v1 _ (k : Int) _ HX2.out).mono ?_); rintro e w3 ⟨rfl, hb3_⟩; have n1_ := Aside0.mk (H2.out.trans ((hk_drawn_below hb3_).mono H2.out.size)); clear H2; have H2 := n1_; clear n1_; clear HX2 hb3_) | ((with_reducible refine gate_dst (N := 44) rfl ?_); refine Kd.R_lit (Kd.int .u64) w2.heap.size 32 ?hg (N := 44) ?hd (xs := ([] : List Int)) (inner := []) (ok := fun _ => True) (okp := fun _ => True) ?hr ?hp (fun _ hk => hk) trivial H2.out H2.out.size (by simp) ?_; (case hd => rfl); (case hg => rfl); (case hr => first | (go_simp; done) | (go_simp; rfl)); (case hp => exact (Reps.none _ _)); intro vqm wqm ho2 hb2_ hg_ hnew_; clear hg_ hnew_; have oqm := Aside0.mk ho2; have n1_ := Aside0.mk (hb2_); clear H2; have H2 := n1_; clear n1_; clear ho2 hb2_) | ((with_reducible refine gate_builtin (b := .append) (xs := #[.tmp 44, .tmp 45]) rfl ?_); at_builtin; refine Kd.R_append_rows (Kd.int .u64) (w0 := w2) w2.heap.size rfl (.tmp 44) (.tmp 45) 22 32 (.int .u64 0) 8 rfl Tryd.underlying22 info32 rfl (by decide) (by omega) vqm [] l _ _ _ (fun _ => True) (fun _ => False) rfl rfl oqm.out (Kd.C_below HRL.out H2.out) (fun _ _ h => h) (fun _ h => h.elim) (fun _ _ => trivial) H2.out H2.out.size ?aL ?_; (case aL => have := HL.out; simp only [List.length_nil]; omega); intro vm wrm ho3 hb3_ hg_ hat_; rw [List.nil_append] at ho3; have Rm := Aside0.mk ho3; have n1_ := Aside0.mk (hb3_); clear H2; have H2 := n1_; clear n1_; clear oqm ho3 hb3_ hg_ hat_; obtain ⟨Am, cm, em⟩ := Kd.R_slice Rm.out; subst em) | (go_at_call 24; (with_reducible refine (kern2_Run.err k (Nat.le_trans HK.out (by decide)) t0 t1 s _ _ b Am l.length cm dir _ _ (K4.out.below H2.out) HE.out).mono ?_); rintro e w4 ⟨rfl, hb3_⟩; have n1_ := Aside0.mk (H2.out.trans ((hk_drawn_below hb3_).mono H2.out.size)); clear H2; have H2 := n1_; clear n1_; clear hb3_) | (go_at_call 12; (with_reducible refine (hk_same_at n An cn l.length l A0 c0 l.length l true _ rfl rfl (Kd.R_reads' Rn.out).2.2 (Kd.R_reads' Rn.out).2.1 (Kd.C_below HRL.out H2.out) HC0.out SM.out).mono ?_); rintro e w6 ⟨rfl, hb3_⟩; have n1_ := Aside0.mk (H2.out.trans ((hk_drawn_below hb3_).mono H2.out.size)); clear H2; have H2 := n1_; clear n1_; clear hb3_) | ((with_reducible refine gate_dst (N := 52) rfl ?_); refine Kd.R_lit (Kd.int .u64) w2.heap.size 32 ?hg (N := 52) ?hd (xs := ([] : List Int)) (inner := []) (ok := fun _ => True) (okp := fun _ => True) ?hr ?hp (fun _ hk => hk) trivial H2.out H2.out.size (by simp) ?_; (case hd => rfl); (case hg => rfl); (case hr => first | (go_simp; done) | (go_simp; rfl)); (case hp => exact (Reps.none _ _)); intro vqn wqn ho2 hb2_ hg_ hnew_; clear hg_ hnew_; have oqn := Aside0.mk ho2; have n1_ := Aside0.mk (hb2_); clear H2; have H2 := n1_; clear n1_; clear ho2 hb2_) | ((with_reducible refine gate_builtin (b := .append) (xs := #[.tmp 52, .tmp 53]) rfl ?_); at_builtin; refine Kd.R_append_rows (Kd.int .u64) (w0 := w2) w2.heap.size rfl (.tmp 52) (.tmp 53) 22 32 (.int .u64 0) 8 rfl Tryd.underlying22 info32 rfl (by decide) (by omega) vqn [] l _ _ _ (fun _ => True) (fun _ => False) rfl rfl oqn.out (Kd.C_below HRL.out H2.out) (fun _ _ h => h) (fun _ h => h.elim) (fun _ _ => trivial) H2.out H2.out.size ?aL ?_; (case aL => have := HL.out; simp only [List.length_nil]; omega); intro vn wrn ho3 hb3_ hg_ hat_; rw [List.nil_append] at ho3; have Rn := Aside0.mk ho3; have n1_ := Aside0.mk (hb3_); clear H2; have H2 := n1_; clear n1_; clear oqn ho3 hb3_ hg_ hat_; obtain ⟨An, cn, en⟩ := Kd.R_slice Rn.out; subst en) | (go_at_call 25; (with_reducible refine (kern2_Plain.err k (Nat.le_trans HK.out (by decide)) t0 t1 s _ _ b An l.length cn dir _ _ (K4.out.below H2.out) HE.out).mono ?_); rintro e w5 ⟨rfl, hb3_⟩; have r_ := Aside0.mk (Kd.R_below Rn.out (hk_drawn_below hb3_)); clear Rn; have Rn := r_; clear r_; have n1_ := Aside0.mk (H2.out.trans ((hk_drawn_below hb3_).mono H2.out.size)); clear H2; have H2 := n1_; clear n1_; clear hb3_))
    go_ret
    exact ⟨rfl, HB.out.trans (H2.out.mono HB.out.size)⟩
  · have hcond : ((l.length : Int) != wrap64 (2 ^ min (IntKind.u64.wrap (k : Int)).toNat 64)) = false := by rw [hs, hm]; exact bne_self_eq_false _
    have hd0 : (dir != 0) = true := bne_iff_ne.2 (by omega)
    have hd1 : (dir != 1) = true := bne_iff_ne.2 (by omega)
    clear hs hm hn hd
    go_enter Tryd.func7, Tryd.ntmps7
    go_wp2_with (first | (go_at_call 9; (with_reducible refine (abacistlaw09_awake.calls n true _ hG AW.out).mono ?_); rintro e w1 ⟨rfl, hb1⟩; have hb1 := Aside0.mk hb1) | (go_at_call 22; (with_reducible refine (hk_New2.at n k t0 t1 s _ (Nat.le_trans HK.out (by decide)) HTB.out).mono ?_); rintro e w2 ⟨b, rfl, hb2_, hk2⟩; have HB := Aside0.mk (hb1.out.trans (hb2_.mono hb1.out.size)); have H2 := Aside0.mk (Below.refl w2.heap.size w2); have K4 := Aside0.mk hk2; obtain ⟨v0, v1, hX2_⟩ := hk_K2.inner hk2; have hG2 := Aside0.mk (hG.out.below HB.out); have HX2 := Aside0.mk hX2_; have HRL := Aside0.mk (Kd.C_below HR0.out HB.out); clear hb2_ hk2 hX2_ hb1 HR0) | (go_at_call 23; (with_reducible refine (hk_kern2_K.calls b v0 v1 _ (k : Int) _ HX2.out).mono ?_); rintro e w3 ⟨rfl, hb3_⟩; have n1_ := Aside0.mk (H2.out.trans ((hk_drawn_below hb3_).mono H2.out.size)); clear H2; have H2 := n1_; clear n1_; clear HX2 hb3_) | ((with_reducible refine gate_dst (N := 44) rfl ?_); refine Kd.R_lit (Kd.int .u64) w2.heap.size 32 ?hg (N := 44) ?hd (xs := ([] : List Int)) (inner := []) (ok := fun _ => True) (okp := fun _ => True) ?hr ?hp (fun _ hk => hk) trivial H2.out H2.out.size (by simp) ?_; (case hd => rfl); (case hg => rfl); (case hr => first | (go_simp; done) | (go_simp; rfl)); (case hp => exact (Reps.none _ _)); intro vqm wqm ho2 hb2_ hg_ hnew_; clear hg_ hnew_; have oqm := Aside0.mk ho2; have n1_ := Aside0.mk (hb2_); clear H2; have H2 := n1_; clear n1_; clear ho2 hb2_) | ((with_reducible refine gate_builtin (b := .append) (xs := #[.tmp 44, .tmp 45]) rfl ?_); at_builtin; refine Kd.R_append_rows (Kd.int .u64) (w0 := w2) w2.heap.size rfl (.tmp 44) (.tmp 45) 22 32 (.int .u64 0) 8 rfl Tryd.underlying22 info32 rfl (by decide) (by omega) vqm [] l _ _ _ (fun _ => True) (fun _ => False) rfl rfl oqm.out (Kd.C_below HRL.out H2.out) (fun _ _ h => h) (fun _ h => h.elim) (fun _ _ => trivial) H2.out H2.out.size ?aL ?_; (case aL => have := HL.out; simp only [List.length_nil]; omega); intro vm wrm ho3 hb3_ hg_ hat_; rw [List.nil_append] at ho3; have Rm := Aside0.mk ho3; have n1_ := Aside0.mk (hb3_); clear H2; have H2 := n1_; clear n1_; clear oqm ho3 hb3_ hg_ hat_; obtain ⟨Am, cm, em⟩ := Kd.R_slice Rm.out; subst em) | (go_at_call 24; (with_reducible refine (kern2_Run.err k (Nat.le_trans HK.out (by decide)) t0 t1 s _ _ b Am l.length cm dir _ _ (K4.out.below H2.out) HE.out).mono ?_); rintro e w4 ⟨rfl, hb3_⟩; have n1_ := Aside0.mk (H2.out.trans ((hk_drawn_below hb3_).mono H2.out.size)); clear H2; have H2 := n1_; clear n1_; clear hb3_) | (go_at_call 12; (with_reducible refine (hk_same_at n An cn l.length l A0 c0 l.length l true _ rfl rfl (Kd.R_reads' Rn.out).2.2 (Kd.R_reads' Rn.out).2.1 (Kd.C_below HRL.out H2.out) HC0.out SM.out).mono ?_); rintro e w6 ⟨rfl, hb3_⟩; have n1_ := Aside0.mk (H2.out.trans ((hk_drawn_below hb3_).mono H2.out.size)); clear H2; have H2 := n1_; clear n1_; clear hb3_) | ((with_reducible refine gate_dst (N := 52) rfl ?_); refine Kd.R_lit (Kd.int .u64) w2.heap.size 32 ?hg (N := 52) ?hd (xs := ([] : List Int)) (inner := []) (ok := fun _ => True) (okp := fun _ => True) ?hr ?hp (fun _ hk => hk) trivial H2.out H2.out.size (by simp) ?_; (case hd => rfl); (case hg => rfl); (case hr => first | (go_simp; done) | (go_simp; rfl)); (case hp => exact (Reps.none _ _)); intro vqn wqn ho2 hb2_ hg_ hnew_; clear hg_ hnew_; have oqn := Aside0.mk ho2; have n1_ := Aside0.mk (hb2_); clear H2; have H2 := n1_; clear n1_; clear ho2 hb2_) | ((with_reducible refine gate_builtin (b := .append) (xs := #[.tmp 52, .tmp 53]) rfl ?_); at_builtin; refine Kd.R_append_rows (Kd.int .u64) (w0 := w2) w2.heap.size rfl (.tmp 52) (.tmp 53) 22 32 (.int .u64 0) 8 rfl Tryd.underlying22 info32 rfl (by decide) (by omega) vqn [] l _ _ _ (fun _ => True) (fun _ => False) rfl rfl oqn.out (Kd.C_below HRL.out H2.out) (fun _ _ h => h) (fun _ h => h.elim) (fun _ _ => trivial) H2.out H2.out.size ?aL ?_; (case aL => have := HL.out; simp only [List.length_nil]; omega); intro vn wrn ho3 hb3_ hg_ hat_; rw [List.nil_append] at ho3; have Rn := Aside0.mk ho3; have n1_ := Aside0.mk (hb3_); clear H2; have H2 := n1_; clear n1_; clear oqn ho3 hb3_ hg_ hat_; obtain ⟨An, cn, en⟩ := Kd.R_slice Rn.out; subst en) | (go_at_call 25; (with_reducible refine (kern2_Plain.err k (Nat.le_trans HK.out (by decide)) t0 t1 s _ _ b An l.length cn dir _ _ (K4.out.below H2.out) HE.out).mono ?_); rintro e w5 ⟨rfl, hb3_⟩; have r_ := Aside0.mk (Kd.R_below Rn.out (hk_drawn_below hb3_)); clear Rn; have Rn := r_; clear r_; have n1_ := Aside0.mk (H2.out.trans ((hk_drawn_below hb3_).mono H2.out.size)); clear H2; have H2 := n1_; clear n1_; clear hb3_))
    go_ret
    exact ⟨rfl, HB.out.trans (H2.out.mono HB.out.size)⟩
set_option maxHeartbeats 8000000 in
set_option maxRecDepth 100000 in
theorem hk_HR.good_false (n : Nat) (A0 : Option Addr) (c0 : Nat) (l : List Int) (dir : Int) (w : World) (hG : Aside0 (TzTab w)) (hr0 : Kd.C (Kd.int .u64) w A0 l.length l) (hc0 : l.length ≤ c0) (hA : abacistlaw09_awake.f n = some true) (h32 : l.length ≤ 32) (k : Nat) (hk : k ≤ 6) (t0 t1 : List Int) (s : Int) (hT : hk_tabs2 n k t0 t1 s) (rr want : List Int) (hd : dir = 0 ∨ dir = 1) (hR : hk_run2 n k t0 t1 s dir false l rr) (hW : abacistref08_Transform.f n l (k : Int) dir = some want) (hS : abacistref04_Same.f n rr want = some true) (hl : l.length = 2 ^ k) :
    Calls Tryd.prog 7 #[.slice A0 l.length c0, .int .i64 (k : Int), .int .i64 dir, .bool false] w fun e w' => e = .returned (.bool true) ∧ Below w.heap.size w w' := by
  have AW := Aside0.mk hA
  have HR0 := Aside0.mk hr0
  have HC0 := Aside0.mk hc0
  have HK := Aside0.mk hk
  have HTB := Aside0.mk hT
  have HL := Aside0.mk h32
  have d1 : decide (32 < (l.length : Int)) = false := decide_eq_false (by omega)
  have d1c : (32 < l.length) = False := eq_false (by omega)
  have d2 : decide (6 < (k : Int)) = false := decide_eq_false (by omega)
  have d2c : (6 < k) = False := eq_false (by omega)
  have d4 : decide ((k : Int) < 0) = false := decide_eq_false (by omega)
  have d5 : decide (20 < (k : Int)) = false := decide_eq_false (by omega)
  have d5c : (20 < k) = False := eq_false (by omega)
  have hs := hk_shl_k (k := k) (by omega)
  have RUN := Aside0.mk hR
  have TR := Aside0.mk hW
  have SM := Aside0.mk hS
  have hcond : ((l.length : Int) != wrap64 (2 ^ min (IntKind.u64.wrap (k : Int)).toNat 64)) = false := by rw [hs, hl]; exact bne_self_eq_false _
  clear hA hr0 hc0 hk hT h32 hS hR hW hs hl
  rcases hd with rfl | rfl
  · go_enter Tryd.func7, Tryd.ntmps7
    go_wp2_with (first | (go_at_call 9; (with_reducible refine (abacistlaw09_awake.calls n true _ hG AW.out).mono ?_); rintro e w1 ⟨rfl, hb1⟩; have hb1 := Aside0.mk hb1) | (go_at_call 22; (with_reducible refine (hk_New2.at n k t0 t1 s _ (Nat.le_trans HK.out (by decide)) HTB.out).mono ?_); rintro e w2 ⟨b, rfl, hb2_, hk2⟩; have HB := Aside0.mk (hb1.out.trans (hb2_.mono hb1.out.size)); have H2 := Aside0.mk (Below.refl w2.heap.size w2); have K4 := Aside0.mk hk2; obtain ⟨v0, v1, hX2_⟩ := hk_K2.inner hk2; have hG2 := Aside0.mk (hG.out.below HB.out); have HX2 := Aside0.mk hX2_; have HRL := Aside0.mk (Kd.C_below HR0.out HB.out); clear hb2_ hk2 hX2_ hb1 HR0) | (go_at_call 23; (with_reducible refine (hk_kern2_K.calls b v0 v1 _ (k : Int) _ HX2.out).mono ?_); rintro e w3 ⟨rfl, hb3_⟩; have n1_ := Aside0.mk (H2.out.trans ((hk_drawn_below hb3_).mono H2.out.size)); clear H2; have H2 := n1_; clear n1_; clear HX2 hb3_) | ((with_reducible refine gate_dst (N := 44) rfl ?_); refine Kd.R_lit (Kd.int .u64) w2.heap.size 32 ?hg (N := 44) ?hd (xs := ([] : List Int)) (inner := []) (ok := fun _ => True) (okp := fun _ => True) ?hr ?hp (fun _ hk => hk) trivial H2.out H2.out.size (by simp) ?_; (case hd => rfl); (case hg => rfl); (case hr => first | (go_simp; done) | (go_simp; rfl)); (case hp => exact (Reps.none _ _)); intro vqm wqm ho2 hb2_ hg_ hnew_; clear hg_ hnew_; have oqm := Aside0.mk ho2; have n1_ := Aside0.mk (hb2_); clear H2; have H2 := n1_; clear n1_; clear ho2 hb2_) | ((with_reducible refine gate_builtin (b := .append) (xs := #[.tmp 44, .tmp 45]) rfl ?_); at_builtin; refine Kd.R_append_rows (Kd.int .u64) (w0 := w2) w2.heap.size rfl (.tmp 44) (.tmp 45) 22 32 (.int .u64 0) 8 rfl Tryd.underlying22 info32 rfl (by decide) (by omega) vqm [] l _ _ _ (fun _ => True) (fun _ => False) rfl rfl oqm.out (Kd.C_below HRL.out H2.out) (fun _ _ h => h) (fun _ h => h.elim) (fun _ _ => trivial) H2.out H2.out.size ?aL ?_; (case aL => have := HL.out; simp only [List.length_nil]; omega); intro vm wrm ho3 hb3_ hg_ hat_; rw [List.nil_append] at ho3; have Rm := Aside0.mk ho3; have n1_ := Aside0.mk (hb3_); clear H2; have H2 := n1_; clear n1_; clear oqm ho3 hb3_ hg_ hat_; obtain ⟨Am, cm, em⟩ := Kd.R_slice Rm.out; subst em) | (go_at_call 24; (with_reducible refine (hk_Run2.run n k (Nat.le_trans HK.out (by decide)) (.slice Am l.length cm) l rr t0 t1 s 0 _ b w2 _ ⟨hG2.out.below H2.out⟩ H2.out K4.out Rm.out RUN.out).mono ?_); rintro e w4 ⟨rfl, hR_, hB_, _⟩; clear H2 Rm; have Rm := Aside0.mk hR_; have H2 := Aside0.mk hB_; clear hR_ hB_) | (go_at_call 13; (with_reducible refine (abacistref08_Transform.calls n A0 c0 l (k : Int) 0 _ _ (Kd.C_below HRL.out H2.out) HC0.out TR.out).mono ?_); rintro e w5 ⟨vw, rfl, hR_, hB_⟩; obtain ⟨Ag, cg, ew⟩ := Kd.R_slice hR_; subst ew; have Rg := Aside0.mk hR_; have r_ := Aside0.mk (Kd.R_below Rm.out hB_); clear Rm; have Rm := r_; clear r_; have n1_ := Aside0.mk (H2.out.trans (hB_.mono H2.out.size)); clear H2; have H2 := n1_; clear n1_; clear hR_ hB_) | (go_at_call 12; (with_reducible refine (hk_same_at n Am cm l.length _ Ag cg _ _ true _ (Kd.R_reads' Rm.out).1 rfl (Kd.R_reads' Rm.out).2.2 ?hq (Kd.R_reads' Rg.out).2.2 ?hq2 SM.out).mono ?_); (case hq => have h1_ := (Kd.R_reads' Rm.out); omega); (case hq2 => exact (Kd.R_reads' Rg.out).2.1); rintro e w6 ⟨rfl, hb3_⟩; have n1_ := Aside0.mk (H2.out.trans ((hk_drawn_below hb3_).mono H2.out.size)); clear H2; have H2 := n1_; clear n1_; clear hb3_))
    go_ret
    exact ⟨rfl, HB.out.trans (H2.out.mono HB.out.size)⟩
  · go_enter Tryd.func7, Tryd.ntmps7
    go_wp2_with (first | (go_at_call 9; (with_reducible refine (abacistlaw09_awake.calls n true _ hG AW.out).mono ?_); rintro e w1 ⟨rfl, hb1⟩; have hb1 := Aside0.mk hb1) | (go_at_call 22; (with_reducible refine (hk_New2.at n k t0 t1 s _ (Nat.le_trans HK.out (by decide)) HTB.out).mono ?_); rintro e w2 ⟨b, rfl, hb2_, hk2⟩; have HB := Aside0.mk (hb1.out.trans (hb2_.mono hb1.out.size)); have H2 := Aside0.mk (Below.refl w2.heap.size w2); have K4 := Aside0.mk hk2; obtain ⟨v0, v1, hX2_⟩ := hk_K2.inner hk2; have hG2 := Aside0.mk (hG.out.below HB.out); have HX2 := Aside0.mk hX2_; have HRL := Aside0.mk (Kd.C_below HR0.out HB.out); clear hb2_ hk2 hX2_ hb1 HR0) | (go_at_call 23; (with_reducible refine (hk_kern2_K.calls b v0 v1 _ (k : Int) _ HX2.out).mono ?_); rintro e w3 ⟨rfl, hb3_⟩; have n1_ := Aside0.mk (H2.out.trans ((hk_drawn_below hb3_).mono H2.out.size)); clear H2; have H2 := n1_; clear n1_; clear HX2 hb3_) | ((with_reducible refine gate_dst (N := 44) rfl ?_); refine Kd.R_lit (Kd.int .u64) w2.heap.size 32 ?hg (N := 44) ?hd (xs := ([] : List Int)) (inner := []) (ok := fun _ => True) (okp := fun _ => True) ?hr ?hp (fun _ hk => hk) trivial H2.out H2.out.size (by simp) ?_; (case hd => rfl); (case hg => rfl); (case hr => first | (go_simp; done) | (go_simp; rfl)); (case hp => exact (Reps.none _ _)); intro vqm wqm ho2 hb2_ hg_ hnew_; clear hg_ hnew_; have oqm := Aside0.mk ho2; have n1_ := Aside0.mk (hb2_); clear H2; have H2 := n1_; clear n1_; clear ho2 hb2_) | ((with_reducible refine gate_builtin (b := .append) (xs := #[.tmp 44, .tmp 45]) rfl ?_); at_builtin; refine Kd.R_append_rows (Kd.int .u64) (w0 := w2) w2.heap.size rfl (.tmp 44) (.tmp 45) 22 32 (.int .u64 0) 8 rfl Tryd.underlying22 info32 rfl (by decide) (by omega) vqm [] l _ _ _ (fun _ => True) (fun _ => False) rfl rfl oqm.out (Kd.C_below HRL.out H2.out) (fun _ _ h => h) (fun _ h => h.elim) (fun _ _ => trivial) H2.out H2.out.size ?aL ?_; (case aL => have := HL.out; simp only [List.length_nil]; omega); intro vm wrm ho3 hb3_ hg_ hat_; rw [List.nil_append] at ho3; have Rm := Aside0.mk ho3; have n1_ := Aside0.mk (hb3_); clear H2; have H2 := n1_; clear n1_; clear oqm ho3 hb3_ hg_ hat_; obtain ⟨Am, cm, em⟩ := Kd.R_slice Rm.out; subst em) | (go_at_call 24; (with_reducible refine (hk_Run2.run n k (Nat.le_trans HK.out (by decide)) (.slice Am l.length cm) l rr t0 t1 s 1 _ b w2 _ ⟨hG2.out.below H2.out⟩ H2.out K4.out Rm.out RUN.out).mono ?_); rintro e w4 ⟨rfl, hR_, hB_, _⟩; clear H2 Rm; have Rm := Aside0.mk hR_; have H2 := Aside0.mk hB_; clear hR_ hB_) | (go_at_call 13; (with_reducible refine (abacistref08_Transform.calls n A0 c0 l (k : Int) 1 _ _ (Kd.C_below HRL.out H2.out) HC0.out TR.out).mono ?_); rintro e w5 ⟨vw, rfl, hR_, hB_⟩; obtain ⟨Ag, cg, ew⟩ := Kd.R_slice hR_; subst ew; have Rg := Aside0.mk hR_; have r_ := Aside0.mk (Kd.R_below Rm.out hB_); clear Rm; have Rm := r_; clear r_; have n1_ := Aside0.mk (H2.out.trans (hB_.mono H2.out.size)); clear H2; have H2 := n1_; clear n1_; clear hR_ hB_) | (go_at_call 12; (with_reducible refine (hk_same_at n Am cm l.length _ Ag cg _ _ true _ (Kd.R_reads' Rm.out).1 rfl (Kd.R_reads' Rm.out).2.2 ?hq (Kd.R_reads' Rg.out).2.2 ?hq2 SM.out).mono ?_); (case hq => have h1_ := (Kd.R_reads' Rm.out); omega); (case hq2 => exact (Kd.R_reads' Rg.out).2.1); rintro e w6 ⟨rfl, hb3_⟩; have n1_ := Aside0.mk (H2.out.trans ((hk_drawn_below hb3_).mono H2.out.size)); clear H2; have H2 := n1_; clear n1_; clear hb3_))
    go_ret
    exact ⟨rfl, HB.out.trans (H2.out.mono HB.out.size)⟩
set_option maxHeartbeats 8000000 in
set_option maxRecDepth 100000 in
theorem hk_HR.good_true (n : Nat) (A0 : Option Addr) (c0 : Nat) (l : List Int) (dir : Int) (w : World) (hG : Aside0 (TzTab w)) (hr0 : Kd.C (Kd.int .u64) w A0 l.length l) (hc0 : l.length ≤ c0) (hA : abacistlaw09_awake.f n = some true) (h32 : l.length ≤ 32) (k : Nat) (hk : k ≤ 6) (t0 t1 : List Int) (s : Int) (hT : hk_tabs2 n k t0 t1 s) (rr want r df : List Int) (hd : dir = 0 ∨ dir = 1) (hR : hk_run2 n k t0 t1 s dir false l rr) (hP : hk_run2 n k t0 t1 s dir true l r) (hW : abacistref08_Transform.f n l (k : Int) dir = some want) (hD : abacistref08_Dft.f n l (k : Int) dir = some df) (hS : abacistref04_Same.f n r df = some true) (hl : l.length = 2 ^ k) :
    Calls Tryd.prog 7 #[.slice A0 l.length c0, .int .i64 (k : Int), .int .i64 dir, .bool true] w fun e w' => e = .returned (.bool true) ∧ Below w.heap.size w w' := by
  have AW := Aside0.mk hA
  have HR0 := Aside0.mk hr0
  have HC0 := Aside0.mk hc0
  have HK := Aside0.mk hk
  have HTB := Aside0.mk hT
  have HL := Aside0.mk h32
  have d1 : decide (32 < (l.length : Int)) = false := decide_eq_false (by omega)
  have d1c : (32 < l.length) = False := eq_false (by omega)
  have d2 : decide (6 < (k : Int)) = false := decide_eq_false (by omega)
  have d2c : (6 < k) = False := eq_false (by omega)
  have d4 : decide ((k : Int) < 0) = false := decide_eq_false (by omega)
  have d5 : decide (20 < (k : Int)) = false := decide_eq_false (by omega)
  have d5c : (20 < k) = False := eq_false (by omega)
  have hs := hk_shl_k (k := k) (by omega)
  have RUN := Aside0.mk hR
  have TR := Aside0.mk hW
  have SM := Aside0.mk hS
  have PLN := Aside0.mk hP
  have DF := Aside0.mk hD
  have hcond : ((l.length : Int) != wrap64 (2 ^ min (IntKind.u64.wrap (k : Int)).toNat 64)) = false := by rw [hs, hl]; exact bne_self_eq_false _
  clear hA hr0 hc0 hk hT h32 hS hR hW hs hl hP hD
  rcases hd with rfl | rfl
  · go_enter Tryd.func7, Tryd.ntmps7
    go_wp2_with (first | (go_at_call 9; (with_reducible refine (abacistlaw09_awake.calls n true _ hG AW.out).mono ?_); rintro e w1 ⟨rfl, hb1⟩; have hb1 := Aside0.mk hb1) | (go_at_call 22; (with_reducible refine (hk_New2.at n k t0 t1 s _ (Nat.le_trans HK.out (by decide)) HTB.out).mono ?_); rintro e w2 ⟨b, rfl, hb2_, hk2⟩; have HB := Aside0.mk (hb1.out.trans (hb2_.mono hb1.out.size)); have H2 := Aside0.mk (Below.refl w2.heap.size w2); have K4 := Aside0.mk hk2; obtain ⟨v0, v1, hX2_⟩ := hk_K2.inner hk2; have hG2 := Aside0.mk (hG.out.below HB.out); have HX2 := Aside0.mk hX2_; have HRL := Aside0.mk (Kd.C_below HR0.out HB.out); clear hb2_ hk2 hX2_ hb1 HR0) | (go_at_call 23; (with_reducible refine (hk_kern2_K.calls b v0 v1 _ (k : Int) _ HX2.out).mono ?_); rintro e w3 ⟨rfl, hb3_⟩; have n1_ := Aside0.mk (H2.out.trans ((hk_drawn_below hb3_).mono H2.out.size)); clear H2; have H2 := n1_; clear n1_; clear HX2 hb3_) | ((with_reducible refine gate_dst (N := 44) rfl ?_); refine Kd.R_lit (Kd.int .u64) w2.heap.size 32 ?hg (N := 44) ?hd (xs := ([] : List Int)) (inner := []) (ok := fun _ => True) (okp := fun _ => True) ?hr ?hp (fun _ hk => hk) trivial H2.out H2.out.size (by simp) ?_; (case hd => rfl); (case hg => rfl); (case hr => first | (go_simp; done) | (go_simp; rfl)); (case hp => exact (Reps.none _ _)); intro vqm wqm ho2 hb2_ hg_ hnew_; clear hg_ hnew_; have oqm := Aside0.mk ho2; have n1_ := Aside0.mk (hb2_); clear H2; have H2 := n1_; clear n1_; clear ho2 hb2_) | ((with_reducible refine gate_builtin (b := .append) (xs := #[.tmp 44, .tmp 45]) rfl ?_); at_builtin; refine Kd.R_append_rows (Kd.int .u64) (w0 := w2) w2.heap.size rfl (.tmp 44) (.tmp 45) 22 32 (.int .u64 0) 8 rfl Tryd.underlying22 info32 rfl (by decide) (by omega) vqm [] l _ _ _ (fun _ => True) (fun _ => False) rfl rfl oqm.out (Kd.C_below HRL.out H2.out) (fun _ _ h => h) (fun _ h => h.elim) (fun _ _ => trivial) H2.out H2.out.size ?aL ?_; (case aL => have := HL.out; simp only [List.length_nil]; omega); intro vm wrm ho3 hb3_ hg_ hat_; rw [List.nil_append] at ho3; have Rm := Aside0.mk ho3; have n1_ := Aside0.mk (hb3_); clear H2; have H2 := n1_; clear n1_; clear oqm ho3 hb3_ hg_ hat_; obtain ⟨Am, cm, em⟩ := Kd.R_slice Rm.out; subst em) | (go_at_call 24; (with_reducible refine (hk_Run2.run n k (Nat.le_trans HK.out (by decide)) (.slice Am l.length cm) l rr t0 t1 s 0 _ b w2 _ ⟨hG2.out.below H2.out⟩ H2.out K4.out Rm.out RUN.out).mono ?_); rintro e w4 ⟨rfl, hR_, hB_, _⟩; clear H2 Rm; have Rm := Aside0.mk hR_; have H2 := Aside0.mk hB_; clear hR_ hB_) | (go_at_call 13; (with_reducible refine (abacistref08_Transform.calls n A0 c0 l (k : Int) 0 _ _ (Kd.C_below HRL.out H2.out) HC0.out TR.out).mono ?_); rintro e w5 ⟨vw, rfl, hR_, hB_⟩; obtain ⟨Ag, cg, ew⟩ := Kd.R_slice hR_; subst ew; have Rg := Aside0.mk hR_; have r_ := Aside0.mk (Kd.R_below Rn.out hB_); clear Rn; have Rn := r_; clear r_; have n1_ := Aside0.mk (H2.out.trans (hB_.mono H2.out.size)); clear H2; have H2 := n1_; clear n1_; clear hR_ hB_) | (go_at_call 12; (with_reducible refine (hk_same_at n An cn l.length _ Ad cd _ _ true _ (Kd.R_reads' Rn.out).1 rfl (Kd.R_reads' Rn.out).2.2 ?hq (Kd.R_reads' Rd.out).2.2 ?hq2 SM.out).mono ?_); (case hq => have h1_ := (Kd.R_reads' Rn.out); omega); (case hq2 => exact (Kd.R_reads' Rd.out).2.1); rintro e w6 ⟨rfl, hb3_⟩; have n1_ := Aside0.mk (H2.out.trans ((hk_drawn_below hb3_).mono H2.out.size)); clear H2; have H2 := n1_; clear n1_; clear hb3_) | ((with_reducible refine gate_dst (N := 52) rfl ?_); refine Kd.R_lit (Kd.int .u64) w2.heap.size 32 ?hg (N := 52) ?hd (xs := ([] : List Int)) (inner := []) (ok := fun _ => True) (okp := fun _ => True) ?hr ?hp (fun _ hk => hk) trivial H2.out H2.out.size (by simp) ?_; (case hd => rfl); (case hg => rfl); (case hr => first | (go_simp; done) | (go_simp; rfl)); (case hp => exact (Reps.none _ _)); intro vqn wqn ho2 hb2_ hg_ hnew_; clear hg_ hnew_; have oqn := Aside0.mk ho2; have n1_ := Aside0.mk (hb2_); clear H2; have H2 := n1_; clear n1_; clear ho2 hb2_) | ((with_reducible refine gate_builtin (b := .append) (xs := #[.tmp 52, .tmp 53]) rfl ?_); at_builtin; refine Kd.R_append_rows (Kd.int .u64) (w0 := w2) w2.heap.size rfl (.tmp 52) (.tmp 53) 22 32 (.int .u64 0) 8 rfl Tryd.underlying22 info32 rfl (by decide) (by omega) vqn [] l _ _ _ (fun _ => True) (fun _ => False) rfl rfl oqn.out (Kd.C_below HRL.out H2.out) (fun _ _ h => h) (fun _ h => h.elim) (fun _ _ => trivial) H2.out H2.out.size ?aL ?_; (case aL => have := HL.out; simp only [List.length_nil]; omega); intro vn wrn ho3 hb3_ hg_ hat_; rw [List.nil_append] at ho3; have Rn := Aside0.mk ho3; have n1_ := Aside0.mk (hb3_); clear H2; have H2 := n1_; clear n1_; clear oqn ho3 hb3_ hg_ hat_; obtain ⟨An, cn, en⟩ := Kd.R_slice Rn.out; subst en) | (go_at_call 25; (with_reducible refine (hk_Run2.plain n k (Nat.le_trans HK.out (by decide)) (.slice An l.length cn) l r t0 t1 s 0 _ b w2 _ ⟨hG2.out.below H2.out⟩ H2.out K4.out Rn.out PLN.out).mono ?_); rintro e w4 ⟨rfl, hR_, hB_, _⟩; clear H2 Rn; have Rn := Aside0.mk hR_; have H2 := Aside0.mk hB_; clear hR_ hB_) | (go_at_call 26; (with_reducible refine (abacistref08_Dft.calls n A0 c0 l (k : Int) 0 _ _ (Kd.C_below HRL.out H2.out) HC0.out DF.out).mono ?_); rintro e w5 ⟨vw, rfl, hR_, hB_⟩; obtain ⟨Ad, cd, ew⟩ := Kd.R_slice hR_; subst ew; have Rd := Aside0.mk hR_; have r_ := Aside0.mk (Kd.R_below Rn.out hB_); clear Rn; have Rn := r_; clear r_; have n1_ := Aside0.mk (H2.out.trans (hB_.mono H2.out.size)); clear H2; have H2 := n1_; clear n1_; clear hR_ hB_))
    go_ret
    exact ⟨rfl, HB.out.trans (H2.out.mono HB.out.size)⟩
  · go_enter Tryd.func7, Tryd.ntmps7
    go_wp2_with (first | (go_at_call 9; (with_reducible refine (abacistlaw09_awake.calls n true _ hG AW.out).mono ?_); rintro e w1 ⟨rfl, hb1⟩; have hb1 := Aside0.mk hb1) | (go_at_call 22; (with_reducible refine (hk_New2.at n k t0 t1 s _ (Nat.le_trans HK.out (by decide)) HTB.out).mono ?_); rintro e w2 ⟨b, rfl, hb2_, hk2⟩; have HB := Aside0.mk (hb1.out.trans (hb2_.mono hb1.out.size)); have H2 := Aside0.mk (Below.refl w2.heap.size w2); have K4 := Aside0.mk hk2; obtain ⟨v0, v1, hX2_⟩ := hk_K2.inner hk2; have hG2 := Aside0.mk (hG.out.below HB.out); have HX2 := Aside0.mk hX2_; have HRL := Aside0.mk (Kd.C_below HR0.out HB.out); clear hb2_ hk2 hX2_ hb1 HR0) | (go_at_call 23; (with_reducible refine (hk_kern2_K.calls b v0 v1 _ (k : Int) _ HX2.out).mono ?_); rintro e w3 ⟨rfl, hb3_⟩; have n1_ := Aside0.mk (H2.out.trans ((hk_drawn_below hb3_).mono H2.out.size)); clear H2; have H2 := n1_; clear n1_; clear HX2 hb3_) | ((with_reducible refine gate_dst (N := 44) rfl ?_); refine Kd.R_lit (Kd.int .u64) w2.heap.size 32 ?hg (N := 44) ?hd (xs := ([] : List Int)) (inner := []) (ok := fun _ => True) (okp := fun _ => True) ?hr ?hp (fun _ hk => hk) trivial H2.out H2.out.size (by simp) ?_; (case hd => rfl); (case hg => rfl); (case hr => first | (go_simp; done) | (go_simp; rfl)); (case hp => exact (Reps.none _ _)); intro vqm wqm ho2 hb2_ hg_ hnew_; clear hg_ hnew_; have oqm := Aside0.mk ho2; have n1_ := Aside0.mk (hb2_); clear H2; have H2 := n1_; clear n1_; clear ho2 hb2_) | ((with_reducible refine gate_builtin (b := .append) (xs := #[.tmp 44, .tmp 45]) rfl ?_); at_builtin; refine Kd.R_append_rows (Kd.int .u64) (w0 := w2) w2.heap.size rfl (.tmp 44) (.tmp 45) 22 32 (.int .u64 0) 8 rfl Tryd.underlying22 info32 rfl (by decide) (by omega) vqm [] l _ _ _ (fun _ => True) (fun _ => False) rfl rfl oqm.out (Kd.C_below HRL.out H2.out) (fun _ _ h => h) (fun _ h => h.elim) (fun _ _ => trivial) H2.out H2.out.size ?aL ?_; (case aL => have := HL.out; simp only [List.length_nil]; omega); intro vm wrm ho3 hb3_ hg_ hat_; rw [List.nil_append] at ho3; have Rm := Aside0.mk ho3; have n1_ := Aside0.mk (hb3_); clear H2; have H2 := n1_; clear n1_; clear oqm ho3 hb3_ hg_ hat_; obtain ⟨Am, cm, em⟩ := Kd.R_slice Rm.out; subst em) | (go_at_call 24; (with_reducible refine (hk_Run2.run n k (Nat.le_trans HK.out (by decide)) (.slice Am l.length cm) l rr t0 t1 s 1 _ b w2 _ ⟨hG2.out.below H2.out⟩ H2.out K4.out Rm.out RUN.out).mono ?_); rintro e w4 ⟨rfl, hR_, hB_, _⟩; clear H2 Rm; have Rm := Aside0.mk hR_; have H2 := Aside0.mk hB_; clear hR_ hB_) | (go_at_call 13; (with_reducible refine (abacistref08_Transform.calls n A0 c0 l (k : Int) 1 _ _ (Kd.C_below HRL.out H2.out) HC0.out TR.out).mono ?_); rintro e w5 ⟨vw, rfl, hR_, hB_⟩; obtain ⟨Ag, cg, ew⟩ := Kd.R_slice hR_; subst ew; have Rg := Aside0.mk hR_; have r_ := Aside0.mk (Kd.R_below Rn.out hB_); clear Rn; have Rn := r_; clear r_; have n1_ := Aside0.mk (H2.out.trans (hB_.mono H2.out.size)); clear H2; have H2 := n1_; clear n1_; clear hR_ hB_) | (go_at_call 12; (with_reducible refine (hk_same_at n An cn l.length _ Ad cd _ _ true _ (Kd.R_reads' Rn.out).1 rfl (Kd.R_reads' Rn.out).2.2 ?hq (Kd.R_reads' Rd.out).2.2 ?hq2 SM.out).mono ?_); (case hq => have h1_ := (Kd.R_reads' Rn.out); omega); (case hq2 => exact (Kd.R_reads' Rd.out).2.1); rintro e w6 ⟨rfl, hb3_⟩; have n1_ := Aside0.mk (H2.out.trans ((hk_drawn_below hb3_).mono H2.out.size)); clear H2; have H2 := n1_; clear n1_; clear hb3_) | ((with_reducible refine gate_dst (N := 52) rfl ?_); refine Kd.R_lit (Kd.int .u64) w2.heap.size 32 ?hg (N := 52) ?hd (xs := ([] : List Int)) (inner := []) (ok := fun _ => True) (okp := fun _ => True) ?hr ?hp (fun _ hk => hk) trivial H2.out H2.out.size (by simp) ?_; (case hd => rfl); (case hg => rfl); (case hr => first | (go_simp; done) | (go_simp; rfl)); (case hp => exact (Reps.none _ _)); intro vqn wqn ho2 hb2_ hg_ hnew_; clear hg_ hnew_; have oqn := Aside0.mk ho2; have n1_ := Aside0.mk (hb2_); clear H2; have H2 := n1_; clear n1_; clear ho2 hb2_) | ((with_reducible refine gate_builtin (b := .append) (xs := #[.tmp 52, .tmp 53]) rfl ?_); at_builtin; refine Kd.R_append_rows (Kd.int .u64) (w0 := w2) w2.heap.size rfl (.tmp 52) (.tmp 53) 22 32 (.int .u64 0) 8 rfl Tryd.underlying22 info32 rfl (by decide) (by omega) vqn [] l _ _ _ (fun _ => True) (fun _ => False) rfl rfl oqn.out (Kd.C_below HRL.out H2.out) (fun _ _ h => h) (fun _ h => h.elim) (fun _ _ => trivial) H2.out H2.out.size ?aL ?_; (case aL => have := HL.out; simp only [List.length_nil]; omega); intro vn wrn ho3 hb3_ hg_ hat_; rw [List.nil_append] at ho3; have Rn := Aside0.mk ho3; have n1_ := Aside0.mk (hb3_); clear H2; have H2 := n1_; clear n1_; clear oqn ho3 hb3_ hg_ hat_; obtain ⟨An, cn, en⟩ := Kd.R_slice Rn.out; subst en) | (go_at_call 25; (with_reducible refine (hk_Run2.plain n k (Nat.le_trans HK.out (by decide)) (.slice An l.length cn) l r t0 t1 s 1 _ b w2 _ ⟨hG2.out.below H2.out⟩ H2.out K4.out Rn.out PLN.out).mono ?_); rintro e w4 ⟨rfl, hR_, hB_, _⟩; clear H2 Rn; have Rn := Aside0.mk hR_; have H2 := Aside0.mk hB_; clear hR_ hB_) | (go_at_call 26; (with_reducible refine (abacistref08_Dft.calls n A0 c0 l (k : Int) 1 _ _ (Kd.C_below HRL.out H2.out) HC0.out DF.out).mono ?_); rintro e w5 ⟨vw, rfl, hR_, hB_⟩; obtain ⟨Ad, cd, ew⟩ := Kd.R_slice hR_; subst ew; have Rd := Aside0.mk hR_; have r_ := Aside0.mk (Kd.R_below Rn.out hB_); clear Rn; have Rn := r_; clear r_; have n1_ := Aside0.mk (H2.out.trans (hB_.mono H2.out.size)); clear H2; have H2 := n1_; clear n1_; clear hR_ hB_))
    go_ret
    exact ⟨rfl, HB.out.trans (H2.out.mono HB.out.size)⟩
theorem hk_HR.walk (n : Nat) (A0 : Option Addr) (c0 : Nat) (l : List Int) (kk dir : Int) (plain : Bool) (w : World) (hG : Aside0 (TzTab w)) (hr0 : Kd.C (Kd.int .u64) w A0 l.length l) (hc0 : l.length ≤ c0) (h : hk_HR n l kk dir plain) :
    Calls Tryd.prog 7 #[.slice A0 l.length c0, .int .i64 kk, .int .i64 dir, .bool plain] w fun e w' => e = .returned (.bool true) ∧ Below w.heap.size w w' := by
  obtain ⟨hA, h | ⟨h, h1⟩ | ⟨h, h1⟩ | ⟨h, k, rfl, hk, t0, t1, s, hT, h1⟩⟩ := h
  · exact hk_HR.long n A0 c0 l kk dir plain w hG hr0 hc0 hA (.inl h)
  · exact hk_HR.long n A0 c0 l kk dir plain w hG hr0 hc0 hA (.inr ⟨h, h1⟩)
  · exact hk_HR.none n A0 c0 l kk dir plain w hG hr0 hc0 hA h h1
  · rcases h1 with ⟨er, hE, hS⟩ | ⟨rr, want, hR, hW, h2⟩
    · have hn : (dir = 0 ∨ dir = 1) → l.length ≠ 2 ^ k := fun hd => by
        rcases hE with ⟨hm, _⟩ | ⟨_, hq, _⟩
        · exact hm
        · omega
      cases plain
      · exact hk_HR.err_false n A0 c0 l dir w hG hr0 hc0 hA h k hk t0 t1 s hT er hE hn hS
      · exact hk_HR.err_true n A0 c0 l dir w hG hr0 hc0 hA h k hk t0 t1 s hT er hE hn hS
    · have hR2 := hR
      obtain ⟨r0, hd, hl, _⟩ := hR2
      rcases h2 with ⟨rfl, hS⟩ | ⟨rfl, r, df, hP, hD, hS⟩
      · exact hk_HR.good_false n A0 c0 l dir w hG hr0 hc0 hA h k hk t0 t1 s hT rr want hd hR hW hS hl
      · exact hk_HR.good_true n A0 c0 l dir w hG hr0 hc0 hA h k hk t0 t1 s hT rr want r df hd hR hP hW hD hS hl

/-- THE ONE PURE STATEMENT of abacistlaw09_HalvesRun. -/
def abacistlaw09_HalvesRun.Pure : Prop := ∀ (l0 : List Int) (a1 : Int) (a2 : Int) (a3 : Bool), l0.length ≤ maxLen → l0.length * 8 ≤ 140737488351232 → (∀ x ∈ l0, (Lit.int .u64 x).wf = true) → (Lit.int .i64 a1).wf = true → (Lit.int .i64 a2).wf = true → ∃ k, hk_HR k l0 a1 a2 a3
theorem abacistlaw09_HalvesRun.walk (P : abacistlaw09_HalvesRun.Pure) (a0 : Option Addr) (len0 cap0 : Nat) (z0 : List Int) (a1 : Int) (a2 : Int) (a3 : Bool) (w : World) (hG : Aside0 (TzTab w)) (w0 : (a0 = none ∧ len0 = 0 ∧ cap0 = 0 ∧ z0 = []) ∨ ∃ x, a0 = some x ∧ len0 ≤ cap0 ∧ cap0 ≤ maxLen ∧ z0.length = cap0 ∧ (∀ i, i < z0.length → w.cell? (x.add i) = some (.int .u64 (z0.getD i 0))) ∧ ∀ n ∈ z0, (Lit.int .u64 n).wf = true) (y0 : len0 * 8 ≤ 140737488351232) (w1 : (Lit.int .i64 a1).wf = true) (w2 : (Lit.int .i64 a2).wf = true) :
    Calls Tryd.prog 7 #[.slice a0 len0 cap0, .int .i64 a1, .int .i64 a2, .bool a3] w fun e w' => e = .returned (.bool true) ∧ Below w.heap.size w w' := by
  obtain ⟨l0, rfl, hr0, hm0, hw0, hc0⟩ := ReadsInt.ofRowC w0
  obtain ⟨k, h⟩ := P l0 a1 a2 a3 hm0 y0 hw0 w1 w2
  exact hk_HR.walk k _ _ l0 a1 a2 a3 w hG (Kd.C_of_reads (d := (0 : Int)) (h1 := fun _ => rfl) hr0) hc0 h

end Go.Proofs.YtggmpdmlbjllhaaDoor.PHalvesRun
