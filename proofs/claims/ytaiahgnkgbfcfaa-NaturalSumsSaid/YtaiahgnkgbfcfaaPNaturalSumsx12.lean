-- Written for this claim by wip/gen/mk.sh, this session's own driver over the kit's print
import Derived.Test.YtaiahgnkgbfcfaaPNaturalSumsx0
import Derived.Test.YtaiahgnkgbfcfaaPNaturalSumsx1
import Derived.Test.YtaiahgnkgbfcfaaPNaturalSumsx7
import Derived.Test.YtaiahgnkgbfcfaaPNaturalSumsx8
import Derived.Test.YtaiahgnkgbfcfaaPNaturalSumsx9
import Derived.Test.YtaiahgnkgbfcfaaPNaturalSumsx10
import Derived.Test.YtaiahgnkgbfcfaaPNaturalSumsx11
namespace Go.Proofs.Ytaiahgnkgbfcfaa.PNaturalSums
open Go.RowKit Go.Proofs.YtaiahgnkgbfcfaaW.PrintWords Go.Proofs.YtaiahgnkgbfcfaaW.PrintLast Go.Proofs.YtaiahgnkgbfcfaaW.PrintMore
attribute [local go_sem] max2_int min2_int max_two min_two max_three min_three max_four min_four   -- for this text's walks alone
set_option linter.unusedVariables false
set_option linter.unusedSimpArgs false

/-! ### abacistlaw31_NaturalSums: function 9 -/
mutual
def abacistlaw31_NaturalSums.j0 : Nat → List Int → List Int → Bool → Option (Bool)
  | 0, _, _, _ => none
  | k + 1, x0, x1, x23 => if x23 = true then (some true) else ((natural_Compare.f k x0 x1).bind fun bt372 => ((natural_Sum.f k (([x0, x1, x0] : List (List Int)))).bind fun bt377 => ((natural_Sub.f k x0 x1).bind fun bt381 => ((natural_Product.f k (([x0, x1] : List (List Int)))).bind fun bt388 => ((abacistref31_Good.f k x0).bind fun t392 => (if t392 = true then ((abacistref31_Good.f k x1).bind fun t393 => (abacistlaw31_NaturalSums.j1 k x0 x1 bt372.1 bt372.2 bt377.1 bt377.2 bt381.1 bt381.2 bt388.1 bt388.2 (!t393))) else (abacistlaw31_NaturalSums.j1 k x0 x1 bt372.1 bt372.2 bt377.1 bt377.2 bt381.1 bt381.2 bt388.1 bt388.2 true)))))))
def abacistlaw31_NaturalSums.j1 : Nat → List Int → List Int → Int → Int → List Int → Int → List Int → Int → List Int → Int → Bool → Option (Bool)
  | 0, _, _, _, _, _, _, _, _, _, _, _ => none
  | k + 1, x0, x1, x5, x6, x7, x8, x9, x10, x11, x12, x58 => if x58 = true then (if x6 = 10 then (if x8 = 10 then (if x10 = 10 then (if x12 = 10 then (if x5 = 0 then (if (x7.length : Int) = 0 then (if (x9.length : Int) = 0 then (some ((x11.length : Int) == 0)) else (some false)) else (some false)) else (some false)) else (some false)) else (some false)) else (some false)) else (some false)) else ((abacistref31_Less.f k x0 x1).bind fun t394 => (if t394 = true then (abacistlaw31_NaturalSums.j2 k x0 x1 x5 x6 x7 x8 x9 x10 x11 x12 (-1)) else (abacistlaw31_NaturalSums.j2 k x0 x1 x5 x6 x7 x8 x9 x10 x11 x12 0)))
def abacistlaw31_NaturalSums.j2 : Nat → List Int → List Int → Int → Int → List Int → Int → List Int → Int → List Int → Int → Int → Option (Bool)
  | 0, _, _, _, _, _, _, _, _, _, _, _ => none
  | k + 1, x0, x1, x5, x6, x7, x8, x9, x10, x11, x12, x13 => (abacistref31_Less.f k x1 x0).bind fun t395 => (if t395 = true then (abacistlaw31_NaturalSums.j3 k x0 x1 x5 x6 x7 x8 x9 x10 x11 x12 1) else (abacistlaw31_NaturalSums.j3 k x0 x1 x5 x6 x7 x8 x9 x10 x11 x12 x13))
def abacistlaw31_NaturalSums.j3 : Nat → List Int → List Int → Int → Int → List Int → Int → List Int → Int → List Int → Int → Int → Option (Bool)
  | 0, _, _, _, _, _, _, _, _, _, _, _ => none
  | k + 1, x0, x1, x5, x6, x7, x8, x9, x10, x11, x12, x13 => if x6 = 0 then (if x5 = x13 then (if x8 = 0 then ((abacistref31_Add.f k x0 x1).bind fun t396 => ((abacistref31_Add.f k t396 x0).bind fun t399 => ((abacistref04_Same.f k x7 t399).bind fun t402 => (if t402 = true then (if x12 = 0 then ((abacistref31_Mul.f k x0 x1).bind fun t403 => ((abacistref04_Same.f k x11 t403).bind fun t406 => (abacistlaw31_NaturalSums.j4 k x0 x1 x9 x10 x13 (!t406)))) else (abacistlaw31_NaturalSums.j4 k x0 x1 x9 x10 x13 true)) else (abacistlaw31_NaturalSums.j4 k x0 x1 x9 x10 x13 true))))) else (abacistlaw31_NaturalSums.j4 k x0 x1 x9 x10 x13 true)) else (abacistlaw31_NaturalSums.j4 k x0 x1 x9 x10 x13 true)) else (abacistlaw31_NaturalSums.j4 k x0 x1 x9 x10 x13 true)
def abacistlaw31_NaturalSums.j4 : Nat → List Int → List Int → List Int → Int → Int → Bool → Option (Bool)
  | 0, _, _, _, _, _, _ => none
  | k + 1, x0, x1, x9, x10, x13, x130 => if x130 = true then (some false) else (if x13 < 0 then (if x10 = 1 then (some ((x9.length : Int) == 0)) else (some false)) else (if x10 = 0 then ((abacistref31_Good.f k x9).bind fun t407 => (if t407 = true then ((abacistref31_Add.f k x9 x1).bind fun t408 => ((abacistref04_Same.f k t408 x0).bind fun t411 => (some t411))) else (some false))) else (some false)))
end
def abacistlaw31_NaturalSums.f (k : Nat) (l0 : List Int) (l1 : List Int) : Option (Bool) := (abacistlaw31_awake.f k).bind fun t371 => (if t371 = true then (if (l0.length : Int) > 30 then (abacistlaw31_NaturalSums.j0 k l0 l1 true) else (abacistlaw31_NaturalSums.j0 k l0 l1 (decide ((l1.length : Int) > 30)))) else (some false))
theorem abacistlaw31_NaturalSums.mono_l : ∀ k, (∀ y0 y1 y2, LeO (abacistlaw31_NaturalSums.j0 k y0 y1 y2) (abacistlaw31_NaturalSums.j0 (k + 1) y0 y1 y2)) ∧ (∀ y0 y1 y2 y3 y4 y5 y6 y7 y8 y9 y10, LeO (abacistlaw31_NaturalSums.j1 k y0 y1 y2 y3 y4 y5 y6 y7 y8 y9 y10) (abacistlaw31_NaturalSums.j1 (k + 1) y0 y1 y2 y3 y4 y5 y6 y7 y8 y9 y10)) ∧ (∀ y0 y1 y2 y3 y4 y5 y6 y7 y8 y9 y10, LeO (abacistlaw31_NaturalSums.j2 k y0 y1 y2 y3 y4 y5 y6 y7 y8 y9 y10) (abacistlaw31_NaturalSums.j2 (k + 1) y0 y1 y2 y3 y4 y5 y6 y7 y8 y9 y10)) ∧ (∀ y0 y1 y2 y3 y4 y5 y6 y7 y8 y9 y10, LeO (abacistlaw31_NaturalSums.j3 k y0 y1 y2 y3 y4 y5 y6 y7 y8 y9 y10) (abacistlaw31_NaturalSums.j3 (k + 1) y0 y1 y2 y3 y4 y5 y6 y7 y8 y9 y10)) ∧ (∀ y0 y1 y2 y3 y4 y5, LeO (abacistlaw31_NaturalSums.j4 k y0 y1 y2 y3 y4 y5) (abacistlaw31_NaturalSums.j4 (k + 1) y0 y1 y2 y3 y4 y5))
  | 0 => ⟨fun _ _ _ r h => by simp [abacistlaw31_NaturalSums.j0] at h, fun _ _ _ _ _ _ _ _ _ _ _ r h => by simp [abacistlaw31_NaturalSums.j1] at h, fun _ _ _ _ _ _ _ _ _ _ _ r h => by simp [abacistlaw31_NaturalSums.j2] at h, fun _ _ _ _ _ _ _ _ _ _ _ r h => by simp [abacistlaw31_NaturalSums.j3] at h, fun _ _ _ _ _ _ r h => by simp [abacistlaw31_NaturalSums.j4] at h⟩
  | k + 1 => by
    obtain ⟨ih0, ih1, ih2, ih3, ih4⟩ := abacistlaw31_NaturalSums.mono_l k
    refine ⟨?_, ?_, ?_, ?_, ?_⟩
    · intro y0 y1 y2
      unfold abacistlaw31_NaturalSums.j0
      repeat' first
      | (with_reducible exact ih0 _ _ _)
      | (with_reducible exact ih1 _ _ _ _ _ _ _ _ _ _ _)
      | (with_reducible exact ih2 _ _ _ _ _ _ _ _ _ _ _)
      | (with_reducible exact ih3 _ _ _ _ _ _ _ _ _ _ _)
      | (with_reducible exact ih4 _ _ _ _ _ _)
      | (with_reducible exact abacistlaw31_awake.mono _)
      | (with_reducible exact abacistref04_Same.mono _ _ _)
      | (with_reducible exact abacistref31_Add.mono _ _ _)
      | (with_reducible exact abacistref31_Good.mono _ _)
      | (with_reducible exact abacistref31_Less.mono _ _ _)
      | (with_reducible exact abacistref31_Mul.mono _ _ _)
      | (with_reducible exact natural_Compare.mono _ _ _)
      | (with_reducible exact natural_Product.mono _ _)
      | (with_reducible exact natural_Sub.mono _ _ _)
      | (with_reducible exact natural_Sum.mono _ _)
      | (with_reducible exact LeO.refl _)
      | (with_reducible exact LeO.none _)
      | (with_reducible refine LeO.ite ?_ ?_)
      | (with_reducible refine LeO.bind ?_ (fun _ => ?_))
      | exact ih0 _ _ _
      | exact ih1 _ _ _ _ _ _ _ _ _ _ _
      | exact ih2 _ _ _ _ _ _ _ _ _ _ _
      | exact ih3 _ _ _ _ _ _ _ _ _ _ _
      | exact ih4 _ _ _ _ _ _
      | exact abacistlaw31_awake.mono _
      | exact abacistref04_Same.mono _ _ _
      | exact abacistref31_Add.mono _ _ _
      | exact abacistref31_Good.mono _ _
      | exact abacistref31_Less.mono _ _ _
      | exact abacistref31_Mul.mono _ _ _
      | exact natural_Compare.mono _ _ _
      | exact natural_Product.mono _ _
      | exact natural_Sub.mono _ _ _
      | exact natural_Sum.mono _ _
      | exact LeO.none _
      | refine LeO.ite ?_ ?_
      | refine LeO.bind ?_ (fun _ => ?_)
    · intro y0 y1 y2 y3 y4 y5 y6 y7 y8 y9 y10
      unfold abacistlaw31_NaturalSums.j1
      repeat' first
      | (with_reducible exact ih0 _ _ _)
      | (with_reducible exact ih1 _ _ _ _ _ _ _ _ _ _ _)
      | (with_reducible exact ih2 _ _ _ _ _ _ _ _ _ _ _)
      | (with_reducible exact ih3 _ _ _ _ _ _ _ _ _ _ _)
      | (with_reducible exact ih4 _ _ _ _ _ _)
      | (with_reducible exact abacistlaw31_awake.mono _)
      | (with_reducible exact abacistref04_Same.mono _ _ _)
      | (with_reducible exact abacistref31_Add.mono _ _ _)
      | (with_reducible exact abacistref31_Good.mono _ _)
      | (with_reducible exact abacistref31_Less.mono _ _ _)
      | (with_reducible exact abacistref31_Mul.mono _ _ _)
      | (with_reducible exact natural_Compare.mono _ _ _)
      | (with_reducible exact natural_Product.mono _ _)
      | (with_reducible exact natural_Sub.mono _ _ _)
      | (with_reducible exact natural_Sum.mono _ _)
      | (with_reducible exact LeO.refl _)
      | (with_reducible exact LeO.none _)
      | (with_reducible refine LeO.ite ?_ ?_)
      | (with_reducible refine LeO.bind ?_ (fun _ => ?_))
      | exact ih0 _ _ _
      | exact ih1 _ _ _ _ _ _ _ _ _ _ _
      | exact ih2 _ _ _ _ _ _ _ _ _ _ _
      | exact ih3 _ _ _ _ _ _ _ _ _ _ _
      | exact ih4 _ _ _ _ _ _
      | exact abacistlaw31_awake.mono _
      | exact abacistref04_Same.mono _ _ _
      | exact abacistref31_Add.mono _ _ _
      | exact abacistref31_Good.mono _ _
      | exact abacistref31_Less.mono _ _ _
      | exact abacistref31_Mul.mono _ _ _
      | exact natural_Compare.mono _ _ _
      | exact natural_Product.mono _ _
      | exact natural_Sub.mono _ _ _
      | exact natural_Sum.mono _ _
      | exact LeO.none _
      | refine LeO.ite ?_ ?_
      | refine LeO.bind ?_ (fun _ => ?_)
    · intro y0 y1 y2 y3 y4 y5 y6 y7 y8 y9 y10
      unfold abacistlaw31_NaturalSums.j2
      repeat' first
      | (with_reducible exact ih0 _ _ _)
      | (with_reducible exact ih1 _ _ _ _ _ _ _ _ _ _ _)
      | (with_reducible exact ih2 _ _ _ _ _ _ _ _ _ _ _)
      | (with_reducible exact ih3 _ _ _ _ _ _ _ _ _ _ _)
      | (with_reducible exact ih4 _ _ _ _ _ _)
      | (with_reducible exact abacistlaw31_awake.mono _)
      | (with_reducible exact abacistref04_Same.mono _ _ _)
      | (with_reducible exact abacistref31_Add.mono _ _ _)
      | (with_reducible exact abacistref31_Good.mono _ _)
      | (with_reducible exact abacistref31_Less.mono _ _ _)
      | (with_reducible exact abacistref31_Mul.mono _ _ _)
      | (with_reducible exact natural_Compare.mono _ _ _)
      | (with_reducible exact natural_Product.mono _ _)
      | (with_reducible exact natural_Sub.mono _ _ _)
      | (with_reducible exact natural_Sum.mono _ _)
      | (with_reducible exact LeO.refl _)
      | (with_reducible exact LeO.none _)
      | (with_reducible refine LeO.ite ?_ ?_)
      | (with_reducible refine LeO.bind ?_ (fun _ => ?_))
      | exact ih0 _ _ _
      | exact ih1 _ _ _ _ _ _ _ _ _ _ _
      | exact ih2 _ _ _ _ _ _ _ _ _ _ _
      | exact ih3 _ _ _ _ _ _ _ _ _ _ _
      | exact ih4 _ _ _ _ _ _
      | exact abacistlaw31_awake.mono _
      | exact abacistref04_Same.mono _ _ _
      | exact abacistref31_Add.mono _ _ _
      | exact abacistref31_Good.mono _ _
      | exact abacistref31_Less.mono _ _ _
      | exact abacistref31_Mul.mono _ _ _
      | exact natural_Compare.mono _ _ _
      | exact natural_Product.mono _ _
      | exact natural_Sub.mono _ _ _
      | exact natural_Sum.mono _ _
      | exact LeO.none _
      | refine LeO.ite ?_ ?_
      | refine LeO.bind ?_ (fun _ => ?_)
    · intro y0 y1 y2 y3 y4 y5 y6 y7 y8 y9 y10
      unfold abacistlaw31_NaturalSums.j3
      repeat' first
      | (with_reducible exact ih0 _ _ _)
      | (with_reducible exact ih1 _ _ _ _ _ _ _ _ _ _ _)
      | (with_reducible exact ih2 _ _ _ _ _ _ _ _ _ _ _)
      | (with_reducible exact ih3 _ _ _ _ _ _ _ _ _ _ _)
      | (with_reducible exact ih4 _ _ _ _ _ _)
      | (with_reducible exact abacistlaw31_awake.mono _)
      | (with_reducible exact abacistref04_Same.mono _ _ _)
      | (with_reducible exact abacistref31_Add.mono _ _ _)
      | (with_reducible exact abacistref31_Good.mono _ _)
      | (with_reducible exact abacistref31_Less.mono _ _ _)
      | (with_reducible exact abacistref31_Mul.mono _ _ _)
      | (with_reducible exact natural_Compare.mono _ _ _)
      | (with_reducible exact natural_Product.mono _ _)
      | (with_reducible exact natural_Sub.mono _ _ _)
      | (with_reducible exact natural_Sum.mono _ _)
      | (with_reducible exact LeO.refl _)
      | (with_reducible exact LeO.none _)
      | (with_reducible refine LeO.ite ?_ ?_)
      | (with_reducible refine LeO.bind ?_ (fun _ => ?_))
      | exact ih0 _ _ _
      | exact ih1 _ _ _ _ _ _ _ _ _ _ _
      | exact ih2 _ _ _ _ _ _ _ _ _ _ _
      | exact ih3 _ _ _ _ _ _ _ _ _ _ _
      | exact ih4 _ _ _ _ _ _
      | exact abacistlaw31_awake.mono _
      | exact abacistref04_Same.mono _ _ _
      | exact abacistref31_Add.mono _ _ _
      | exact abacistref31_Good.mono _ _
      | exact abacistref31_Less.mono _ _ _
      | exact abacistref31_Mul.mono _ _ _
      | exact natural_Compare.mono _ _ _
      | exact natural_Product.mono _ _
      | exact natural_Sub.mono _ _ _
      | exact natural_Sum.mono _ _
      | exact LeO.none _
      | refine LeO.ite ?_ ?_
      | refine LeO.bind ?_ (fun _ => ?_)
    · intro y0 y1 y2 y3 y4 y5
      unfold abacistlaw31_NaturalSums.j4
      repeat' first
      | (with_reducible exact ih0 _ _ _)
      | (with_reducible exact ih1 _ _ _ _ _ _ _ _ _ _ _)
      | (with_reducible exact ih2 _ _ _ _ _ _ _ _ _ _ _)
      | (with_reducible exact ih3 _ _ _ _ _ _ _ _ _ _ _)
      | (with_reducible exact ih4 _ _ _ _ _ _)
      | (with_reducible exact abacistlaw31_awake.mono _)
      | (with_reducible exact abacistref04_Same.mono _ _ _)
      | (with_reducible exact abacistref31_Add.mono _ _ _)
      | (with_reducible exact abacistref31_Good.mono _ _)
      | (with_reducible exact abacistref31_Less.mono _ _ _)
      | (with_reducible exact abacistref31_Mul.mono _ _ _)
      | (with_reducible exact natural_Compare.mono _ _ _)
      | (with_reducible exact natural_Product.mono _ _)
      | (with_reducible exact natural_Sub.mono _ _ _)
      | (with_reducible exact natural_Sum.mono _ _)
      | (with_reducible exact LeO.refl _)
      | (with_reducible exact LeO.none _)
      | (with_reducible refine LeO.ite ?_ ?_)
      | (with_reducible refine LeO.bind ?_ (fun _ => ?_))
      | exact ih0 _ _ _
      | exact ih1 _ _ _ _ _ _ _ _ _ _ _
      | exact ih2 _ _ _ _ _ _ _ _ _ _ _
      | exact ih3 _ _ _ _ _ _ _ _ _ _ _
      | exact ih4 _ _ _ _ _ _
      | exact abacistlaw31_awake.mono _
      | exact abacistref04_Same.mono _ _ _
      | exact abacistref31_Add.mono _ _ _
      | exact abacistref31_Good.mono _ _
      | exact abacistref31_Less.mono _ _ _
      | exact abacistref31_Mul.mono _ _ _
      | exact natural_Compare.mono _ _ _
      | exact natural_Product.mono _ _
      | exact natural_Sub.mono _ _ _
      | exact natural_Sum.mono _ _
      | exact LeO.none _
      | refine LeO.ite ?_ ?_
      | refine LeO.bind ?_ (fun _ => ?_)
theorem abacistlaw31_NaturalSums.mono : ∀ a0 a1 k, LeO (abacistlaw31_NaturalSums.f k a0 a1) (abacistlaw31_NaturalSums.f (k + 1) a0 a1) := by
  intro a0 a1 k
  obtain ⟨ih0, ih1, ih2, ih3, ih4⟩ := abacistlaw31_NaturalSums.mono_l k
  unfold abacistlaw31_NaturalSums.f
  repeat' first
      | (with_reducible exact ih0 _ _ _)
      | (with_reducible exact ih1 _ _ _ _ _ _ _ _ _ _ _)
      | (with_reducible exact ih2 _ _ _ _ _ _ _ _ _ _ _)
      | (with_reducible exact ih3 _ _ _ _ _ _ _ _ _ _ _)
      | (with_reducible exact ih4 _ _ _ _ _ _)
      | (with_reducible exact abacistlaw31_awake.mono _)
      | (with_reducible exact abacistref04_Same.mono _ _ _)
      | (with_reducible exact abacistref31_Add.mono _ _ _)
      | (with_reducible exact abacistref31_Good.mono _ _)
      | (with_reducible exact abacistref31_Less.mono _ _ _)
      | (with_reducible exact abacistref31_Mul.mono _ _ _)
      | (with_reducible exact natural_Compare.mono _ _ _)
      | (with_reducible exact natural_Product.mono _ _)
      | (with_reducible exact natural_Sub.mono _ _ _)
      | (with_reducible exact natural_Sum.mono _ _)
      | (with_reducible exact LeO.refl _)
      | (with_reducible exact LeO.none _)
      | (with_reducible refine LeO.ite ?_ ?_)
      | (with_reducible refine LeO.bind ?_ (fun _ => ?_))
      | exact ih0 _ _ _
      | exact ih1 _ _ _ _ _ _ _ _ _ _ _
      | exact ih2 _ _ _ _ _ _ _ _ _ _ _
      | exact ih3 _ _ _ _ _ _ _ _ _ _ _
      | exact ih4 _ _ _ _ _ _
      | exact abacistlaw31_awake.mono _
      | exact abacistref04_Same.mono _ _ _
      | exact abacistref31_Add.mono _ _ _
      | exact abacistref31_Good.mono _ _
      | exact abacistref31_Less.mono _ _ _
      | exact abacistref31_Mul.mono _ _ _
      | exact natural_Compare.mono _ _ _
      | exact natural_Product.mono _ _
      | exact natural_Sub.mono _ _ _
      | exact natural_Sum.mono _ _
      | exact LeO.none _
      | refine LeO.ite ?_ ?_
      | refine LeO.bind ?_ (fun _ => ?_)
set_option maxHeartbeats 80000000 in
set_option maxRecDepth 100000 in
theorem abacistlaw31_NaturalSums.calls (k : Nat) (P0_ : Nat → Prop) (A0 : Option Addr) (c0 : Nat) (l0 : List Int) (P1_ : Nat → Prop) (A1 : Option Addr) (c1 : Nat) (l1 : List Int) (r : Bool) (hr_ : Aside0 (r = true)) (w : World) (hs0 : Kd.V (Kd.int .u64) 29 w w.heap.size (fun k_ => P0_ k_) (.slice A0 l0.length c0) l0) (hs1 : Kd.V (Kd.int .u64) 29 w w.heap.size (fun k_ => P1_ k_) (.slice A1 l1.length c1) l1) (h : abacistlaw31_NaturalSums.f k l0 l1 = some r) :
    Calls Try.prog 9 #[.slice A0 l0.length c0, .slice A1 l1.length c1] w fun e w' => e = .returned (.bool r) ∧ Below w.heap.size w w' := by
  have HO0 := Aside0.mk (show Kd.V (Kd.int .u64) 29 w w.heap.size (fun k_ => ((P0_ k_ ∨ P1_ k_) ∨ w.heap.size ≤ k_)) (.slice A0 l0.length c0) l0 from Kd.V_mono hs0 (fun k_ hk => .inl (.inl hk)))
  have HO1 := Aside0.mk (show Kd.V (Kd.int .u64) 29 w w.heap.size (fun k_ => ((P0_ k_ ∨ P1_ k_) ∨ w.heap.size ≤ k_)) (.slice A1 l1.length c1) l1 from Kd.V_mono hs1 (fun k_ hk => .inl (.inr hk)))
  have HB := Aside0.mk (Below.refl w.heap.size w)
  have H : ((abacistlaw31_awake.f k).bind fun t371 => (if t371 = true then (if (l0.length : Int) > 30 then (abacistlaw31_NaturalSums.j0 k l0 l1 true) else (abacistlaw31_NaturalSums.j0 k l0 l1 (decide ((l1.length : Int) > 30)))) else (some false))) = some r := h
  clear h
  replace H := Option.bind_eq_some_iff.mp H
  obtain ⟨t371, A30, H⟩ := H
  replace H : (if t371 = true then (if (l0.length : Int) > 30 then (abacistlaw31_NaturalSums.j0 k l0 l1 true) else (abacistlaw31_NaturalSums.j0 k l0 l1 (decide ((l1.length : Int) > 30)))) else (some false)) = some r := H
  have A3 := Aside0.mk A30
  clear A30
  by_cases c4 : t371 = true
  · subst c4
    have H1 : (if (l0.length : Int) > 30 then (abacistlaw31_NaturalSums.j0 k l0 l1 true) else (abacistlaw31_NaturalSums.j0 k l0 l1 (decide ((l1.length : Int) > 30)))) = some r := by rw [if_pos rfl] at H; exact H
    clear H
    have H := H1
    clear H1
    have HC5 := Aside0.mk H
    clear H
    go_enter Try.func9, Try.ntmps9
    go_upto_region 3 with (first | ((with_reducible refine gate_callee (f := 24) rfl ?_); refine goesL_ (some 14) rfl rfl Try.func24 (by kernel_rfl) rfl #[] rfl (by (try simp only [List.map_toArray, List.map_cons, List.map_nil]); first | done | rfl | (simp only [List.length_drop, List.length_take]; rfl)) ?_; (with_reducible refine (abacistlaw31_awake.calls k  true _ A3.out).mono ?_); rintro e w6 ⟨rfl, hb⟩; refine ⟨_, rfl, ?_⟩; have n0_ := Aside0.mk (Kd.V_below (by (with_reducible repeat (first | apply Kd.V_alloc | apply Kd.V_drewN | apply Kd.V_drew)); exact HO0.out) hb); have n1_ := Aside0.mk (Kd.V_below (by (with_reducible repeat (first | apply Kd.V_alloc | apply Kd.V_drewN | apply Kd.V_drew)); exact HO1.out) hb); have n2_ := Aside0.mk (below_step (by repeat (first | (with_reducible first | exact HB.out | apply below_alloc | apply pw_below_drewN | apply below_drew1) | exact HB.out)) hb); clear HO0; clear HO1; clear HB; have HO0 := n0_; have HO1 := n1_; have HB := n2_; clear n0_ n1_ n2_; (try clear hb); (try clear hb2); (try clear hk); (try clear hi)) | (go_at_call 24; (with_reducible refine (abacistlaw31_awake.calls k  true _ A3.out).mono ?_); rintro e w6 ⟨rfl, hb⟩; have n0_ := Aside0.mk (Kd.V_below (by (with_reducible repeat (first | apply Kd.V_alloc | apply Kd.V_drewN | apply Kd.V_drew)); exact HO0.out) hb); have n1_ := Aside0.mk (Kd.V_below (by (with_reducible repeat (first | apply Kd.V_alloc | apply Kd.V_drewN | apply Kd.V_drew)); exact HO1.out) hb); have n2_ := Aside0.mk (below_step (by repeat (first | (with_reducible first | exact HB.out | apply below_alloc | apply pw_below_drewN | apply below_drew1) | exact HB.out)) hb); clear HO0; clear HO1; clear HB; have HO0 := n0_; have HO1 := n1_; have HB := n2_; clear n0_ n1_ n2_; (try clear hb); (try clear hb2); (try clear hk); (try clear hi)))
    (try simp only [Act.put, List.setIfInBounds_toArray, List.set_cons_zero, List.set_cons_succ])
    go_cut [23] (fun v23 wc => ∃ (kq : Nat) (x23_4 : Bool), v23 = .bool x23_4 ∧ Aside0 (abacistlaw31_NaturalSums.j0 kq l0 l1 x23_4 = some r) ∧ Aside0 (kq ≤ k) ∧ Aside0 (Kd.V (Kd.int .u64) 29 wc w.heap.size (fun k_ => ((P0_ k_ ∨ P1_ k_) ∨ w.heap.size ≤ k_)) (.slice A0 l0.length c0) l0) ∧ Aside0 (Kd.V (Kd.int .u64) 29 wc w.heap.size (fun k_ => ((P0_ k_ ∨ P1_ k_) ∨ w.heap.size ≤ k_)) (.slice A1 l1.length c1) l1) ∧ Aside0 (Below w.heap.size w wc))
    case first =>
      have H := HC5.out
      clear HC5
      by_cases c7 : (l0.length : Int) > 30
      · rw [if_pos c7] at H
        have c7b0 : decide (30 < (l0.length : Int)) = true := decide_eq_true c7
        have c7b1 : decide (30 < l0.length) = true := decide_eq_true (by omega)
        clear c7
        (first | rw [c7b0] | (simp only [i64_w, i32_w]; rw [c7b0]) | skip)
        have H' := Aside0.mk H
        clear H
        go_wp2
        go_meet
        case rel => exact ⟨_, (true), (by first | rfl | (simp; done) | (simp [*]; done)), H', ⟨by first | omega | exact Nat.le_refl _⟩, ⟨by (with_reducible repeat (first | apply Kd.V_alloc | apply Kd.V_drewN | apply Kd.V_drew)); exact HO0.out⟩, ⟨by (with_reducible repeat (first | apply Kd.V_alloc | apply Kd.V_drewN | apply Kd.V_drew)); exact HO1.out⟩, ⟨by repeat (first | (with_reducible first | exact HB.out | apply below_alloc | apply pw_below_drewN | apply below_drew1) | exact HB.out)⟩⟩
      · rw [if_neg c7] at H
        have c7b0 : decide (30 < (l0.length : Int)) = false := decide_eq_false c7
        have c7b1 : decide (30 < l0.length) = false := decide_eq_false (by omega)
        clear c7
        (first | rw [c7b0] | (simp only [i64_w, i32_w]; rw [c7b0]) | skip)
        have H' := Aside0.mk H
        clear H
        go_wp2
        go_meet
        case rel => exact ⟨_, (decide ((l1.length : Int) > 30)), (by first | rfl | (simp; done) | (simp [*]; done)), H', ⟨by first | omega | exact Nat.le_refl _⟩, ⟨by (with_reducible repeat (first | apply Kd.V_alloc | apply Kd.V_drewN | apply Kd.V_drew)); exact HO0.out⟩, ⟨by (with_reducible repeat (first | apply Kd.V_alloc | apply Kd.V_drewN | apply Kd.V_drew)); exact HO1.out⟩, ⟨by repeat (first | (with_reducible first | exact HB.out | apply below_alloc | apply pw_below_drewN | apply below_drew1) | exact HB.out)⟩⟩
    case rest =>
      clear HC5
      try clear c1
      try clear c2
      try clear p2
      try clear c4
      try clear c7
      try clear c7b0
      try clear c7b1
      obtain ⟨kq, x23_4, rfl, HA, HJ4, HO_0, HO_1, HB⟩ := hcut
      cases kq with
      | zero => exact absurd HA.out (by simp [abacistlaw31_NaturalSums.j0])
      | succ kj4 =>
        have H := HA.out
        clear HA
        simp only [abacistlaw31_NaturalSums.j0] at H
        by_cases c8 : x23_4 = true
        · subst c8
          have H1 : (some true) = some r := by rw [if_pos rfl] at H; exact H
          clear H
          have H := H1
          clear H1
          obtain rfl := Option.some.inj H
          go_wp2
          go_ret
          exact ⟨by first | rfl | (simp [errW_none, errW_some] <;> rfl) | (simp [*, errW_none, errW_some] <;> rfl), by repeat (first | (with_reducible first | exact HB.out | apply below_alloc | apply pw_below_drewN | apply below_drew1) | exact HB.out)⟩
        · replace c8 := Bool.eq_false_iff.mpr c8
          subst c8
          have H1 : ((natural_Compare.f kj4 l0 l1).bind fun bt372 => ((natural_Sum.f kj4 (([l0, l1, l0] : List (List Int)))).bind fun bt377 => ((natural_Sub.f kj4 l0 l1).bind fun bt381 => ((natural_Product.f kj4 (([l0, l1] : List (List Int)))).bind fun bt388 => ((abacistref31_Good.f kj4 l0).bind fun t392 => (if t392 = true then ((abacistref31_Good.f kj4 l1).bind fun t393 => (abacistlaw31_NaturalSums.j1 kj4 l0 l1 bt372.1 bt372.2 bt377.1 bt377.2 bt381.1 bt381.2 bt388.1 bt388.2 (!t393))) else (abacistlaw31_NaturalSums.j1 kj4 l0 l1 bt372.1 bt372.2 bt377.1 bt377.2 bt381.1 bt381.2 bt388.1 bt388.2 true))))))) = some r := by rw [if_neg (show ¬ (false = true) by decide)] at H; exact H
          clear H
          have H := H1
          clear H1
          replace H := Option.bind_eq_some_iff.mp H
          obtain ⟨⟨t372, t373⟩, A90, H⟩ := H
          replace H : ((natural_Sum.f kj4 (([l0, l1, l0] : List (List Int)))).bind fun bt377 => ((natural_Sub.f kj4 l0 l1).bind fun bt381 => ((natural_Product.f kj4 (([l0, l1] : List (List Int)))).bind fun bt388 => ((abacistref31_Good.f kj4 l0).bind fun t392 => (if t392 = true then ((abacistref31_Good.f kj4 l1).bind fun t393 => (abacistlaw31_NaturalSums.j1 kj4 l0 l1 t372 t373 bt377.1 bt377.2 bt381.1 bt381.2 bt388.1 bt388.2 (!t393))) else (abacistlaw31_NaturalSums.j1 kj4 l0 l1 t372 t373 bt377.1 bt377.2 bt381.1 bt381.2 bt388.1 bt388.2 true)))))) = some r := H
          have A9 := Aside0.mk A90
          clear A90
          obtain ⟨y374, hy374⟩ : ∃ y_ : List (List Int), y_ = (([l0, l1, l0] : List (List Int))) := ⟨_, rfl⟩
          replace H : ((natural_Sum.f kj4 y374).bind fun bt377 => ((natural_Sub.f kj4 l0 l1).bind fun bt381 => ((natural_Product.f kj4 (([l0, l1] : List (List Int)))).bind fun bt388 => ((abacistref31_Good.f kj4 l0).bind fun t392 => (if t392 = true then ((abacistref31_Good.f kj4 l1).bind fun t393 => (abacistlaw31_NaturalSums.j1 kj4 l0 l1 t372 t373 bt377.1 bt377.2 bt381.1 bt381.2 bt388.1 bt388.2 (!t393))) else (abacistlaw31_NaturalSums.j1 kj4 l0 l1 t372 t373 bt377.1 bt377.2 bt381.1 bt381.2 bt388.1 bt388.2 true)))))) = some r := by first | (rw [hy374]; with_reducible exact H) | (have H2_ := (Option.bind_some _ _).symm.trans H; rw [hy374]; with_reducible exact H2_) | (have H2_ := (Option.bind_some _ _).symm.trans H; with_reducible exact H2_) | with_reducible exact H | (rw [hy374]; exact H) | exact H
          have Ny374 := Aside0.mk hy374
          clear hy374
          replace H := Option.bind_eq_some_iff.mp H
          obtain ⟨⟨t377, t380⟩, A100, H⟩ := H
          replace H : ((natural_Sub.f kj4 l0 l1).bind fun bt381 => ((natural_Product.f kj4 (([l0, l1] : List (List Int)))).bind fun bt388 => ((abacistref31_Good.f kj4 l0).bind fun t392 => (if t392 = true then ((abacistref31_Good.f kj4 l1).bind fun t393 => (abacistlaw31_NaturalSums.j1 kj4 l0 l1 t372 t373 t377 t380 bt381.1 bt381.2 bt388.1 bt388.2 (!t393))) else (abacistlaw31_NaturalSums.j1 kj4 l0 l1 t372 t373 t377 t380 bt381.1 bt381.2 bt388.1 bt388.2 true))))) = some r := H
          have A10 := Aside0.mk A100
          clear A100
          replace H := Option.bind_eq_some_iff.mp H
          obtain ⟨⟨t381, t384⟩, A110, H⟩ := H
          replace H : ((natural_Product.f kj4 (([l0, l1] : List (List Int)))).bind fun bt388 => ((abacistref31_Good.f kj4 l0).bind fun t392 => (if t392 = true then ((abacistref31_Good.f kj4 l1).bind fun t393 => (abacistlaw31_NaturalSums.j1 kj4 l0 l1 t372 t373 t377 t380 t381 t384 bt388.1 bt388.2 (!t393))) else (abacistlaw31_NaturalSums.j1 kj4 l0 l1 t372 t373 t377 t380 t381 t384 bt388.1 bt388.2 true)))) = some r := H
          have A11 := Aside0.mk A110
          clear A110
          obtain ⟨y385, hy385⟩ : ∃ y_ : List (List Int), y_ = (([l0, l1] : List (List Int))) := ⟨_, rfl⟩
          replace H : ((natural_Product.f kj4 y385).bind fun bt388 => ((abacistref31_Good.f kj4 l0).bind fun t392 => (if t392 = true then ((abacistref31_Good.f kj4 l1).bind fun t393 => (abacistlaw31_NaturalSums.j1 kj4 l0 l1 t372 t373 t377 t380 t381 t384 bt388.1 bt388.2 (!t393))) else (abacistlaw31_NaturalSums.j1 kj4 l0 l1 t372 t373 t377 t380 t381 t384 bt388.1 bt388.2 true)))) = some r := by first | (rw [hy385]; with_reducible exact H) | (have H2_ := (Option.bind_some _ _).symm.trans H; rw [hy385]; with_reducible exact H2_) | (have H2_ := (Option.bind_some _ _).symm.trans H; with_reducible exact H2_) | with_reducible exact H | (rw [hy385]; exact H) | exact H
          have Ny385 := Aside0.mk hy385
          clear hy385
          replace H := Option.bind_eq_some_iff.mp H
          obtain ⟨⟨t388, t391⟩, A120, H⟩ := H
          replace H : ((abacistref31_Good.f kj4 l0).bind fun t392 => (if t392 = true then ((abacistref31_Good.f kj4 l1).bind fun t393 => (abacistlaw31_NaturalSums.j1 kj4 l0 l1 t372 t373 t377 t380 t381 t384 t388 t391 (!t393))) else (abacistlaw31_NaturalSums.j1 kj4 l0 l1 t372 t373 t377 t380 t381 t384 t388 t391 true))) = some r := H
          have A12 := Aside0.mk A120
          clear A120
          have HC13 := Aside0.mk H
          clear H
          go_upto_region 9 with (first | ((with_reducible refine gate_callee (f := 36) rfl ?_); refine goesL_ (some 27) rfl rfl Try.func36 (by kernel_rfl) rfl #[.slice A0 l0.length c0, .slice A1 l1.length c1] rfl (by (try simp only [List.map_toArray, List.map_cons, List.map_nil]); first | done | rfl | (simp only [List.length_drop, List.length_take]; rfl)) ?_; (with_reducible refine (natural_Compare.calls kj4 (fun k_ => ((P0_ k_ ∨ P1_ k_) ∨ w.heap.size ≤ k_)) _ _ l0 (fun k_ => ((P0_ k_ ∨ P1_ k_) ∨ w.heap.size ≤ k_)) _ _ l1 t372 t373 _ ?side1 ?side2 A9.out).mono ?_); (case side1 => exact HO_0.out); (case side2 => exact HO_1.out); rintro e w14 ⟨rfl, hb⟩; refine ⟨_, rfl, ?_⟩; have n0_ := Aside0.mk (Kd.V_below (by (with_reducible repeat (first | apply Kd.V_alloc | apply Kd.V_drewN | apply Kd.V_drew)); exact HO_0.out) hb); have n1_ := Aside0.mk (Kd.V_below (by (with_reducible repeat (first | apply Kd.V_alloc | apply Kd.V_drewN | apply Kd.V_drew)); exact HO_1.out) hb); have n2_ := Aside0.mk (below_step (by repeat (first | (with_reducible first | exact HB.out | apply below_alloc | apply pw_below_drewN | apply below_drew1) | exact HB.out)) hb); clear HO_0; clear HO_1; clear HB; have HO_0 := n0_; have HO_1 := n1_; have HB := n2_; clear n0_ n1_ n2_; (try clear hb); (try clear hb2); (try clear hk); (try clear hi)) | (go_at_call 36; (with_reducible refine (natural_Compare.calls kj4 (fun k_ => ((P0_ k_ ∨ P1_ k_) ∨ w.heap.size ≤ k_)) _ _ l0 (fun k_ => ((P0_ k_ ∨ P1_ k_) ∨ w.heap.size ≤ k_)) _ _ l1 t372 t373 _ ?side1 ?side2 A9.out).mono ?_); (case side1 => exact HO_0.out); (case side2 => exact HO_1.out); rintro e w14 ⟨rfl, hb⟩; have n0_ := Aside0.mk (Kd.V_below (by (with_reducible repeat (first | apply Kd.V_alloc | apply Kd.V_drewN | apply Kd.V_drew)); exact HO_0.out) hb); have n1_ := Aside0.mk (Kd.V_below (by (with_reducible repeat (first | apply Kd.V_alloc | apply Kd.V_drewN | apply Kd.V_drew)); exact HO_1.out) hb); have n2_ := Aside0.mk (below_step (by repeat (first | (with_reducible first | exact HB.out | apply below_alloc | apply pw_below_drewN | apply below_drew1) | exact HB.out)) hb); clear HO_0; clear HO_1; clear HB; have HO_0 := n0_; have HO_1 := n1_; have HB := n2_; clear n0_ n1_ n2_; (try clear hb); (try clear hb2); (try clear hk); (try clear hi)) | ((with_reducible refine gate_dst (N := 34) rfl ?_); (try (refine gate_guard (by rfl) ?_; dsimp only)); refine Kd.N_lit (Kd.slice 29 (Kd.int .u64)) _ 22 ?hg (N' := 34) ?hd (xs := ([l0, l1, l0] : List (List Int))) (inner := [.slice A0 l0.length c0, .slice A1 l1.length c1, .slice A0 l0.length c0]) (ok := (fun k_ => ((P0_ k_ ∨ P1_ k_) ∨ w.heap.size ≤ k_))) (okp := (fun k_ => ((P0_ k_ ∨ P1_ k_) ∨ w.heap.size ≤ k_))) ?hr ?hp (fun _ hk => hk) ((show ∀ k_, w14.heap.size ≤ k_ → (fun k_ => ((P0_ k_ ∨ P1_ k_) ∨ w.heap.size ≤ k_)) k_ from fun k_ hk => (.inr (Nat.le_trans (below_size (by repeat (first | (with_reducible first | exact HB.out | apply below_alloc | apply pw_below_drewN | apply below_drew1) | exact HB.out))) hk))) _ (Nat.le_refl _)) (Below.refl _ _) (Nat.le_refl _) (by simp) ?_; (case hd => rfl); (case hg => rfl); (case hr => first | (go_simp; done) | (go_simp; rfl)); (case hp => exact (Reps.one (show Kd.FK (Kd.slice 29 (Kd.int .u64)) _ _ l0 [.slice A0 l0.length c0] from (Kd.FK_slice_mk (Kd.V_reads' (Kd.V_mono (ok' := (fun k_ => ((P0_ k_ ∨ P1_ k_) ∨ w.heap.size ≤ k_))) (HO_0.out) (fun k_ hk => hk))).2.1 (Kd.V_F (Kd.V_mono (ok' := (fun k_ => ((P0_ k_ ∨ P1_ k_) ∨ w.heap.size ≤ k_))) (HO_0.out) (fun k_ hk => hk))))) (Reps.one (show Kd.FK (Kd.slice 29 (Kd.int .u64)) _ _ l1 [.slice A1 l1.length c1] from (Kd.FK_slice_mk (Kd.V_reads' (Kd.V_mono (ok' := (fun k_ => ((P0_ k_ ∨ P1_ k_) ∨ w.heap.size ≤ k_))) (HO_1.out) (fun k_ hk => hk))).2.1 (Kd.V_F (Kd.V_mono (ok' := (fun k_ => ((P0_ k_ ∨ P1_ k_) ∨ w.heap.size ≤ k_))) (HO_1.out) (fun k_ hk => hk))))) (Reps.one (show Kd.FK (Kd.slice 29 (Kd.int .u64)) _ _ l0 [.slice A0 l0.length c0] from (Kd.FK_slice_mk (Kd.V_reads' (Kd.V_mono (ok' := (fun k_ => ((P0_ k_ ∨ P1_ k_) ∨ w.heap.size ≤ k_))) (HO_0.out) (fun k_ hk => hk))).2.1 (Kd.V_F (Kd.V_mono (ok' := (fun k_ => ((P0_ k_ ∨ P1_ k_) ∨ w.heap.size ≤ k_))) (HO_0.out) (fun k_ hk => hk))))) (Reps.none _ _))))); intro v375 w15 ho16 hb hg_ hnew_; clear hg_ hnew_; (first | rw [← Ny374.out] at ho16 | (simp only [Int.reduceToNat] at ho16; rw [← Ny374.out] at ho16)); have n0_ := Aside0.mk (Kd.V_elder' (by (with_reducible repeat (first | apply Kd.V_alloc | apply Kd.V_drewN | apply Kd.V_drew)); exact HO_0.out) (Kd.N_base ho16) hb); have n1_ := Aside0.mk (Kd.V_elder' (by (with_reducible repeat (first | apply Kd.V_alloc | apply Kd.V_drewN | apply Kd.V_drew)); exact HO_1.out) (Kd.N_base ho16) hb); have n2_ := Aside0.mk (Kd.N_lower ho16 (below_size (by repeat (first | (with_reducible first | exact HB.out | apply below_alloc | apply pw_below_drewN | apply below_drew1) | exact HB.out)))); have n3_ := Aside0.mk (below_step (by repeat (first | (with_reducible first | exact HB.out | apply below_alloc | apply pw_below_drewN | apply below_drew1) | exact HB.out)) hb); clear HO_0; clear HO_1; clear HB; have HO_0 := n0_; have HO_1 := n1_; have HO376 := n2_; have HB := n3_; clear n0_ n1_ n2_ n3_; clear hb ho16; obtain ⟨Ao17, co17, eo17⟩ := Kd.N_slice HO376.out; subst eo17) | ((with_reducible refine gate_callee (f := 26) rfl ?_); refine goesL_ (some 35) rfl rfl Try.func26 (by kernel_rfl) rfl #[.slice Ao17 y374.length co17] rfl (by (try simp only [List.map_toArray, List.map_cons, List.map_nil]); first | done | rfl | (simp only [List.length_drop, List.length_take]; rfl)) ?_; (with_reducible refine (natural_Sum.calls kj4 _ _ y374 t377 t380 _ ?side1 ?side2 A10.out).mono ?_); (case side1 => repeat (first | exact (Kd.N_reads' HO376.out).2.2 | (with_reducible refine Kd.C_alloc ?_ _) | (with_reducible refine Kd.C_drewN ?_ _) | (with_reducible refine Kd.C_drew ?_))); (case side2 => exact (Kd.N_reads' HO376.out).2.1); rintro e w18 ⟨v378, rfl, ho0, hb⟩; refine ⟨_, rfl, ?_⟩; have n0_ := Aside0.mk (Kd.V_below (by (with_reducible repeat (first | apply Kd.V_alloc | apply Kd.V_drewN | apply Kd.V_drew)); exact HO_0.out) hb); have n1_ := Aside0.mk (Kd.V_below (by (with_reducible repeat (first | apply Kd.V_alloc | apply Kd.V_drewN | apply Kd.V_drew)); exact HO_1.out) hb); have n2_ := Aside0.mk (Kd.N_below (by (with_reducible repeat (first | apply Kd.N_alloc | apply Kd.N_drewN | apply Kd.N_drew)); exact HO376.out) hb); have n3_ := Aside0.mk (Kd.V_lower (Kd.V_mono (ok' := fun k_ => ((P0_ k_ ∨ P1_ k_) ∨ w.heap.size ≤ k_) ∧ some k_ ≠ (.slice Ao17 y374.length co17 : Value).ownBlock) ho0 (fun k_ hk_ => ⟨(.inr (Nat.le_trans (below_size (by repeat (first | (with_reducible first | exact HB.out | apply below_alloc | apply pw_below_drewN | apply below_drew1) | exact HB.out))) hk_)), (Kd.fresh' (Kd.N_lt (by (with_reducible repeat (first | apply Kd.N_alloc | apply Kd.N_drewN | apply Kd.N_drew)); exact HO376.out)) k_ hk_)⟩)) (below_size (by repeat (first | (with_reducible first | exact HB.out | apply below_alloc | apply pw_below_drewN | apply below_drew1) | exact HB.out)))); have n4_ := Aside0.mk (below_step (by repeat (first | (with_reducible first | exact HB.out | apply below_alloc | apply pw_below_drewN | apply below_drew1) | exact HB.out)) hb); clear HO_0; clear HO_1; clear HO376; clear HB; have HO_0 := n0_; have HO_1 := n1_; have HO376 := n2_; have HO379 := n3_; have HB := n4_; clear n0_ n1_ n2_ n3_ n4_; (try clear hb); (try clear hb2); (try clear hk); (try clear hi); (try clear ho0)) | (go_at_call 26; (with_reducible refine (natural_Sum.calls kj4 _ _ y374 t377 t380 _ ?side1 ?side2 A10.out).mono ?_); (case side1 => repeat (first | exact (Kd.N_reads' HO376.out).2.2 | (with_reducible refine Kd.C_alloc ?_ _) | (with_reducible refine Kd.C_drewN ?_ _) | (with_reducible refine Kd.C_drew ?_))); (case side2 => exact (Kd.N_reads' HO376.out).2.1); rintro e w18 ⟨v378, rfl, ho0, hb⟩; have n0_ := Aside0.mk (Kd.V_below (by (with_reducible repeat (first | apply Kd.V_alloc | apply Kd.V_drewN | apply Kd.V_drew)); exact HO_0.out) hb); have n1_ := Aside0.mk (Kd.V_below (by (with_reducible repeat (first | apply Kd.V_alloc | apply Kd.V_drewN | apply Kd.V_drew)); exact HO_1.out) hb); have n2_ := Aside0.mk (Kd.N_below (by (with_reducible repeat (first | apply Kd.N_alloc | apply Kd.N_drewN | apply Kd.N_drew)); exact HO376.out) hb); have n3_ := Aside0.mk (Kd.V_lower (Kd.V_mono (ok' := fun k_ => ((P0_ k_ ∨ P1_ k_) ∨ w.heap.size ≤ k_) ∧ some k_ ≠ (.slice Ao17 y374.length co17 : Value).ownBlock) ho0 (fun k_ hk_ => ⟨(.inr (Nat.le_trans (below_size (by repeat (first | (with_reducible first | exact HB.out | apply below_alloc | apply pw_below_drewN | apply below_drew1) | exact HB.out))) hk_)), (Kd.fresh' (Kd.N_lt (by (with_reducible repeat (first | apply Kd.N_alloc | apply Kd.N_drewN | apply Kd.N_drew)); exact HO376.out)) k_ hk_)⟩)) (below_size (by repeat (first | (with_reducible first | exact HB.out | apply below_alloc | apply pw_below_drewN | apply below_drew1) | exact HB.out)))); have n4_ := Aside0.mk (below_step (by repeat (first | (with_reducible first | exact HB.out | apply below_alloc | apply pw_below_drewN | apply below_drew1) | exact HB.out)) hb); clear HO_0; clear HO_1; clear HO376; clear HB; have HO_0 := n0_; have HO_1 := n1_; have HO376 := n2_; have HO379 := n3_; have HB := n4_; clear n0_ n1_ n2_ n3_ n4_; (try clear hb); (try clear hb2); (try clear hk); (try clear hi); (try clear ho0)) | ((with_reducible refine gate_callee (f := 37) rfl ?_); refine goesL_ (some 41) rfl rfl Try.func37 (by kernel_rfl) rfl #[.slice A0 l0.length c0, .slice A1 l1.length c1] rfl (by (try simp only [List.map_toArray, List.map_cons, List.map_nil]); first | done | rfl | (simp only [List.length_drop, List.length_take]; rfl)) ?_; (with_reducible refine (natural_Sub.calls kj4 _ _ l0 _ _ l1 t381 t384 _ ?side1 ?side2 ?side3 ?side4 A11.out).mono ?_); (case side1 => repeat (first | exact (Kd.V_reads' HO_0.out).2.2 | (with_reducible refine Kd.C_alloc ?_ _) | (with_reducible refine Kd.C_drewN ?_ _) | (with_reducible refine Kd.C_drew ?_))); (case side2 => exact (Kd.V_reads' HO_0.out).2.1); (case side3 => repeat (first | exact (Kd.V_reads' HO_1.out).2.2 | (with_reducible refine Kd.C_alloc ?_ _) | (with_reducible refine Kd.C_drewN ?_ _) | (with_reducible refine Kd.C_drew ?_))); (case side4 => exact (Kd.V_reads' HO_1.out).2.1); rintro e w19 ⟨v382, rfl, ho0, hb⟩; refine ⟨_, rfl, ?_⟩; have n0_ := Aside0.mk (Kd.V_below (by (with_reducible repeat (first | apply Kd.V_alloc | apply Kd.V_drewN | apply Kd.V_drew)); exact HO_0.out) hb); have n1_ := Aside0.mk (Kd.V_below (by (with_reducible repeat (first | apply Kd.V_alloc | apply Kd.V_drewN | apply Kd.V_drew)); exact HO_1.out) hb); have n2_ := Aside0.mk (Kd.N_below (by (with_reducible repeat (first | apply Kd.N_alloc | apply Kd.N_drewN | apply Kd.N_drew)); exact HO376.out) hb); have n3_ := Aside0.mk (Kd.V_below (by (with_reducible repeat (first | apply Kd.V_alloc | apply Kd.V_drewN | apply Kd.V_drew)); exact HO379.out) hb); have n4_ := Aside0.mk (Kd.V_lower (Kd.V_mono (ok' := fun k_ => ((P0_ k_ ∨ P1_ k_) ∨ w.heap.size ≤ k_) ∧ some k_ ≠ (.slice Ao17 y374.length co17 : Value).ownBlock) ho0 (fun k_ hk_ => ⟨(.inr (Nat.le_trans (below_size (by repeat (first | (with_reducible first | exact HB.out | apply below_alloc | apply pw_below_drewN | apply below_drew1) | exact HB.out))) hk_)), (Kd.fresh' (Kd.N_lt (by (with_reducible repeat (first | apply Kd.N_alloc | apply Kd.N_drewN | apply Kd.N_drew)); exact HO376.out)) k_ hk_)⟩)) (below_size (by repeat (first | (with_reducible first | exact HB.out | apply below_alloc | apply pw_below_drewN | apply below_drew1) | exact HB.out)))); have n5_ := Aside0.mk (below_step (by repeat (first | (with_reducible first | exact HB.out | apply below_alloc | apply pw_below_drewN | apply below_drew1) | exact HB.out)) hb); clear HO_0; clear HO_1; clear HO376; clear HO379; clear HB; have HO_0 := n0_; have HO_1 := n1_; have HO376 := n2_; have HO379 := n3_; have HO383 := n4_; have HB := n5_; clear n0_ n1_ n2_ n3_ n4_ n5_; (try clear hb); (try clear hb2); (try clear hk); (try clear hi); (try clear ho0)) | (go_at_call 37; (with_reducible refine (natural_Sub.calls kj4 _ _ l0 _ _ l1 t381 t384 _ ?side1 ?side2 ?side3 ?side4 A11.out).mono ?_); (case side1 => repeat (first | exact (Kd.V_reads' HO_0.out).2.2 | (with_reducible refine Kd.C_alloc ?_ _) | (with_reducible refine Kd.C_drewN ?_ _) | (with_reducible refine Kd.C_drew ?_))); (case side2 => exact (Kd.V_reads' HO_0.out).2.1); (case side3 => repeat (first | exact (Kd.V_reads' HO_1.out).2.2 | (with_reducible refine Kd.C_alloc ?_ _) | (with_reducible refine Kd.C_drewN ?_ _) | (with_reducible refine Kd.C_drew ?_))); (case side4 => exact (Kd.V_reads' HO_1.out).2.1); rintro e w19 ⟨v382, rfl, ho0, hb⟩; have n0_ := Aside0.mk (Kd.V_below (by (with_reducible repeat (first | apply Kd.V_alloc | apply Kd.V_drewN | apply Kd.V_drew)); exact HO_0.out) hb); have n1_ := Aside0.mk (Kd.V_below (by (with_reducible repeat (first | apply Kd.V_alloc | apply Kd.V_drewN | apply Kd.V_drew)); exact HO_1.out) hb); have n2_ := Aside0.mk (Kd.N_below (by (with_reducible repeat (first | apply Kd.N_alloc | apply Kd.N_drewN | apply Kd.N_drew)); exact HO376.out) hb); have n3_ := Aside0.mk (Kd.V_below (by (with_reducible repeat (first | apply Kd.V_alloc | apply Kd.V_drewN | apply Kd.V_drew)); exact HO379.out) hb); have n4_ := Aside0.mk (Kd.V_lower (Kd.V_mono (ok' := fun k_ => ((P0_ k_ ∨ P1_ k_) ∨ w.heap.size ≤ k_) ∧ some k_ ≠ (.slice Ao17 y374.length co17 : Value).ownBlock) ho0 (fun k_ hk_ => ⟨(.inr (Nat.le_trans (below_size (by repeat (first | (with_reducible first | exact HB.out | apply below_alloc | apply pw_below_drewN | apply below_drew1) | exact HB.out))) hk_)), (Kd.fresh' (Kd.N_lt (by (with_reducible repeat (first | apply Kd.N_alloc | apply Kd.N_drewN | apply Kd.N_drew)); exact HO376.out)) k_ hk_)⟩)) (below_size (by repeat (first | (with_reducible first | exact HB.out | apply below_alloc | apply pw_below_drewN | apply below_drew1) | exact HB.out)))); have n5_ := Aside0.mk (below_step (by repeat (first | (with_reducible first | exact HB.out | apply below_alloc | apply pw_below_drewN | apply below_drew1) | exact HB.out)) hb); clear HO_0; clear HO_1; clear HO376; clear HO379; clear HB; have HO_0 := n0_; have HO_1 := n1_; have HO376 := n2_; have HO379 := n3_; have HO383 := n4_; have HB := n5_; clear n0_ n1_ n2_ n3_ n4_ n5_; (try clear hb); (try clear hb2); (try clear hk); (try clear hi); (try clear ho0)) | ((with_reducible refine gate_dst (N := 47) rfl ?_); (try (refine gate_guard (by rfl) ?_; dsimp only)); refine Kd.N_lit (Kd.slice 29 (Kd.int .u64)) _ 22 ?hg (N' := 47) ?hd (xs := ([l0, l1] : List (List Int))) (inner := [.slice A0 l0.length c0, .slice A1 l1.length c1]) (ok := (fun k_ => ((P0_ k_ ∨ P1_ k_) ∨ w.heap.size ≤ k_) ∧ some k_ ≠ (.slice Ao17 y374.length co17 : Value).ownBlock)) (okp := (fun k_ => ((P0_ k_ ∨ P1_ k_) ∨ w.heap.size ≤ k_) ∧ some k_ ≠ (.slice Ao17 y374.length co17 : Value).ownBlock)) ?hr ?hp (fun _ hk => hk) ((show ∀ k_, w19.heap.size ≤ k_ → (fun k_ => ((P0_ k_ ∨ P1_ k_) ∨ w.heap.size ≤ k_) ∧ some k_ ≠ (.slice Ao17 y374.length co17 : Value).ownBlock) k_ from fun k_ hk => ⟨(.inr (Nat.le_trans (below_size (by repeat (first | (with_reducible first | exact HB.out | apply below_alloc | apply pw_below_drewN | apply below_drew1) | exact HB.out))) hk)), Kd.fresh' (Kd.N_lt (by (with_reducible repeat (first | apply Kd.N_alloc | apply Kd.N_drewN | apply Kd.N_drew)); exact HO376.out)) k_ hk⟩) _ (Nat.le_refl _)) (Below.refl _ _) (Nat.le_refl _) (by simp) ?_; (case hd => rfl); (case hg => rfl); (case hr => first | (go_simp; done) | (go_simp; rfl)); (case hp => exact (Reps.one (show Kd.FK (Kd.slice 29 (Kd.int .u64)) _ _ l0 [.slice A0 l0.length c0] from (Kd.FK_slice_mk (Kd.V_reads' (Kd.V_mono (ok' := (fun k_ => ((P0_ k_ ∨ P1_ k_) ∨ w.heap.size ≤ k_) ∧ some k_ ≠ (.slice Ao17 y374.length co17 : Value).ownBlock)) (HO_0.out) (fun k_ hk => ⟨hk.1, hk.2⟩))).2.1 (Kd.V_F (Kd.V_mono (ok' := (fun k_ => ((P0_ k_ ∨ P1_ k_) ∨ w.heap.size ≤ k_) ∧ some k_ ≠ (.slice Ao17 y374.length co17 : Value).ownBlock)) (HO_0.out) (fun k_ hk => ⟨hk.1, hk.2⟩))))) (Reps.one (show Kd.FK (Kd.slice 29 (Kd.int .u64)) _ _ l1 [.slice A1 l1.length c1] from (Kd.FK_slice_mk (Kd.V_reads' (Kd.V_mono (ok' := (fun k_ => ((P0_ k_ ∨ P1_ k_) ∨ w.heap.size ≤ k_) ∧ some k_ ≠ (.slice Ao17 y374.length co17 : Value).ownBlock)) (HO_1.out) (fun k_ hk => ⟨hk.1, hk.2⟩))).2.1 (Kd.V_F (Kd.V_mono (ok' := (fun k_ => ((P0_ k_ ∨ P1_ k_) ∨ w.heap.size ≤ k_) ∧ some k_ ≠ (.slice Ao17 y374.length co17 : Value).ownBlock)) (HO_1.out) (fun k_ hk => ⟨hk.1, hk.2⟩))))) (Reps.none _ _)))); intro v386 w20 ho21 hb hg_ hnew_; clear hg_ hnew_; (first | rw [← Ny385.out] at ho21 | (simp only [Int.reduceToNat] at ho21; rw [← Ny385.out] at ho21)); have n0_ := Aside0.mk (Kd.V_elder' (by (with_reducible repeat (first | apply Kd.V_alloc | apply Kd.V_drewN | apply Kd.V_drew)); exact HO_0.out) (Kd.N_base ho21) hb); have n1_ := Aside0.mk (Kd.V_elder' (by (with_reducible repeat (first | apply Kd.V_alloc | apply Kd.V_drewN | apply Kd.V_drew)); exact HO_1.out) (Kd.N_base ho21) hb); have n2_ := Aside0.mk (Kd.N_elder' (by (with_reducible repeat (first | apply Kd.N_alloc | apply Kd.N_drewN | apply Kd.N_drew)); exact HO376.out) (Kd.N_base ho21) hb); have n3_ := Aside0.mk (Kd.V_elder' (by (with_reducible repeat (first | apply Kd.V_alloc | apply Kd.V_drewN | apply Kd.V_drew)); exact HO379.out) (Kd.N_base ho21) hb); have n4_ := Aside0.mk (Kd.V_elder' (by (with_reducible repeat (first | apply Kd.V_alloc | apply Kd.V_drewN | apply Kd.V_drew)); exact HO383.out) (Kd.N_base ho21) hb); have n5_ := Aside0.mk (Kd.N_lower ho21 (below_size (by repeat (first | (with_reducible first | exact HB.out | apply below_alloc | apply pw_below_drewN | apply below_drew1) | exact HB.out)))); have n6_ := Aside0.mk (below_step (by repeat (first | (with_reducible first | exact HB.out | apply below_alloc | apply pw_below_drewN | apply below_drew1) | exact HB.out)) hb); clear HO_0; clear HO_1; clear HO376; clear HO379; clear HO383; clear HB; have HO_0 := n0_; have HO_1 := n1_; have HO376 := n2_; have HO379 := n3_; have HO383 := n4_; have HO387 := n5_; have HB := n6_; clear n0_ n1_ n2_ n3_ n4_ n5_ n6_; clear hb ho21; obtain ⟨Ao22, co22, eo22⟩ := Kd.N_slice HO387.out; subst eo22) | ((with_reducible refine gate_callee (f := 27) rfl ?_); refine goesL_ (some 48) rfl rfl Try.func27 (by kernel_rfl) rfl #[.slice Ao22 y385.length co22] rfl (by (try simp only [List.map_toArray, List.map_cons, List.map_nil]); first | done | rfl | (simp only [List.length_drop, List.length_take]; rfl)) ?_; (with_reducible refine (natural_Product.calls kj4 (fun k_ => (((P0_ k_ ∨ P1_ k_) ∨ w.heap.size ≤ k_) ∧ some k_ ≠ (.slice Ao17 y374.length co17 : Value).ownBlock)) _ _ y385 t388 t391 _ ?side1 A12.out).mono ?_); (case side1 => exact Kd.N_V (HO387.out)); rintro e w23 ⟨v389, rfl, ho0, hb⟩; refine ⟨_, rfl, ?_⟩; have n0_ := Aside0.mk (Kd.V_below (by (with_reducible repeat (first | apply Kd.V_alloc | apply Kd.V_drewN | apply Kd.V_drew)); exact HO_0.out) hb); have n1_ := Aside0.mk (Kd.V_below (by (with_reducible repeat (first | apply Kd.V_alloc | apply Kd.V_drewN | apply Kd.V_drew)); exact HO_1.out) hb); have n2_ := Aside0.mk (Kd.N_below (by (with_reducible repeat (first | apply Kd.N_alloc | apply Kd.N_drewN | apply Kd.N_drew)); exact HO376.out) hb); have n3_ := Aside0.mk (Kd.V_below (by (with_reducible repeat (first | apply Kd.V_alloc | apply Kd.V_drewN | apply Kd.V_drew)); exact HO379.out) hb); have n4_ := Aside0.mk (Kd.V_below (by (with_reducible repeat (first | apply Kd.V_alloc | apply Kd.V_drewN | apply Kd.V_drew)); exact HO383.out) hb); have n5_ := Aside0.mk (Kd.N_below (by (with_reducible repeat (first | apply Kd.N_alloc | apply Kd.N_drewN | apply Kd.N_drew)); exact HO387.out) hb); have n6_ := Aside0.mk (Kd.V_lower (Kd.V_mono (ok' := fun k_ => ((P0_ k_ ∨ P1_ k_) ∨ w.heap.size ≤ k_) ∧ some k_ ≠ (.slice Ao17 y374.length co17 : Value).ownBlock) ho0 (fun k_ hk_ => ⟨Or.elim hk_ (fun hs_ => hs_.1) (fun hn_ => (.inr (Nat.le_trans (below_size (by repeat (first | (with_reducible first | exact HB.out | apply below_alloc | apply pw_below_drewN | apply below_drew1) | exact HB.out))) hn_))), Or.elim hk_ (fun hs_ => hs_.2) (fun hn_ => (Kd.fresh' (Kd.N_lt (by (with_reducible repeat (first | apply Kd.N_alloc | apply Kd.N_drewN | apply Kd.N_drew)); exact HO376.out)) k_ hn_))⟩)) (below_size (by repeat (first | (with_reducible first | exact HB.out | apply below_alloc | apply pw_below_drewN | apply below_drew1) | exact HB.out)))); have n7_ := Aside0.mk (below_step (by repeat (first | (with_reducible first | exact HB.out | apply below_alloc | apply pw_below_drewN | apply below_drew1) | exact HB.out)) hb); clear HO_0; clear HO_1; clear HO376; clear HO379; clear HO383; clear HO387; clear HB; have HO_0 := n0_; have HO_1 := n1_; have HO376 := n2_; have HO379 := n3_; have HO383 := n4_; have HO387 := n5_; have HO390 := n6_; have HB := n7_; clear n0_ n1_ n2_ n3_ n4_ n5_ n6_ n7_; (try clear hb); (try clear hb2); (try clear hk); (try clear hi); (try clear ho0)) | (go_at_call 27; (with_reducible refine (natural_Product.calls kj4 (fun k_ => (((P0_ k_ ∨ P1_ k_) ∨ w.heap.size ≤ k_) ∧ some k_ ≠ (.slice Ao17 y374.length co17 : Value).ownBlock)) _ _ y385 t388 t391 _ ?side1 A12.out).mono ?_); (case side1 => exact Kd.N_V (HO387.out)); rintro e w23 ⟨v389, rfl, ho0, hb⟩; have n0_ := Aside0.mk (Kd.V_below (by (with_reducible repeat (first | apply Kd.V_alloc | apply Kd.V_drewN | apply Kd.V_drew)); exact HO_0.out) hb); have n1_ := Aside0.mk (Kd.V_below (by (with_reducible repeat (first | apply Kd.V_alloc | apply Kd.V_drewN | apply Kd.V_drew)); exact HO_1.out) hb); have n2_ := Aside0.mk (Kd.N_below (by (with_reducible repeat (first | apply Kd.N_alloc | apply Kd.N_drewN | apply Kd.N_drew)); exact HO376.out) hb); have n3_ := Aside0.mk (Kd.V_below (by (with_reducible repeat (first | apply Kd.V_alloc | apply Kd.V_drewN | apply Kd.V_drew)); exact HO379.out) hb); have n4_ := Aside0.mk (Kd.V_below (by (with_reducible repeat (first | apply Kd.V_alloc | apply Kd.V_drewN | apply Kd.V_drew)); exact HO383.out) hb); have n5_ := Aside0.mk (Kd.N_below (by (with_reducible repeat (first | apply Kd.N_alloc | apply Kd.N_drewN | apply Kd.N_drew)); exact HO387.out) hb); have n6_ := Aside0.mk (Kd.V_lower (Kd.V_mono (ok' := fun k_ => ((P0_ k_ ∨ P1_ k_) ∨ w.heap.size ≤ k_) ∧ some k_ ≠ (.slice Ao17 y374.length co17 : Value).ownBlock) ho0 (fun k_ hk_ => ⟨Or.elim hk_ (fun hs_ => hs_.1) (fun hn_ => (.inr (Nat.le_trans (below_size (by repeat (first | (with_reducible first | exact HB.out | apply below_alloc | apply pw_below_drewN | apply below_drew1) | exact HB.out))) hn_))), Or.elim hk_ (fun hs_ => hs_.2) (fun hn_ => (Kd.fresh' (Kd.N_lt (by (with_reducible repeat (first | apply Kd.N_alloc | apply Kd.N_drewN | apply Kd.N_drew)); exact HO376.out)) k_ hn_))⟩)) (below_size (by repeat (first | (with_reducible first | exact HB.out | apply below_alloc | apply pw_below_drewN | apply below_drew1) | exact HB.out)))); have n7_ := Aside0.mk (below_step (by repeat (first | (with_reducible first | exact HB.out | apply below_alloc | apply pw_below_drewN | apply below_drew1) | exact HB.out)) hb); clear HO_0; clear HO_1; clear HO376; clear HO379; clear HO383; clear HO387; clear HB; have HO_0 := n0_; have HO_1 := n1_; have HO376 := n2_; have HO379 := n3_; have HO383 := n4_; have HO387 := n5_; have HO390 := n6_; have HB := n7_; clear n0_ n1_ n2_ n3_ n4_ n5_ n6_ n7_; (try clear hb); (try clear hb2); (try clear hk); (try clear hi); (try clear ho0)))
          (try simp only [Act.put, List.setIfInBounds_toArray, List.set_cons_zero, List.set_cons_succ])
          go_cut [58] (fun v58 wc => ∃ (kq : Nat) (x58_12 : Bool), v58 = .bool x58_12 ∧ Aside0 (abacistlaw31_NaturalSums.j1 kq l0 l1 t372 t373 t377 t380 t381 t384 t388 t391 x58_12 = some r) ∧ Aside0 (kq ≤ kj4) ∧ Aside0 (Kd.V (Kd.int .u64) 29 wc w.heap.size (fun k_ => ((P0_ k_ ∨ P1_ k_) ∨ w.heap.size ≤ k_)) (.slice A0 l0.length c0) l0) ∧ Aside0 (Kd.V (Kd.int .u64) 29 wc w.heap.size (fun k_ => ((P0_ k_ ∨ P1_ k_) ∨ w.heap.size ≤ k_)) (.slice A1 l1.length c1) l1) ∧ Aside0 (Kd.V (Kd.int .u64) 29 wc w.heap.size (fun k_ => ((P0_ k_ ∨ P1_ k_) ∨ w.heap.size ≤ k_)) v378 t377) ∧ Aside0 (Kd.V (Kd.int .u64) 29 wc w.heap.size (fun k_ => ((P0_ k_ ∨ P1_ k_) ∨ w.heap.size ≤ k_)) v382 t381) ∧ Aside0 (Kd.V (Kd.int .u64) 29 wc w.heap.size (fun k_ => ((P0_ k_ ∨ P1_ k_) ∨ w.heap.size ≤ k_)) v389 t388) ∧ Aside0 (Below w.heap.size w wc))
          case first =>
            have H := HC13.out
            clear HC13
            replace H := Option.bind_eq_some_iff.mp H
            obtain ⟨t392, A240, H⟩ := H
            replace H : (if t392 = true then ((abacistref31_Good.f kj4 l1).bind fun t393 => (abacistlaw31_NaturalSums.j1 kj4 l0 l1 t372 t373 t377 t380 t381 t384 t388 t391 (!t393))) else (abacistlaw31_NaturalSums.j1 kj4 l0 l1 t372 t373 t377 t380 t381 t384 t388 t391 true)) = some r := H
            have A24 := Aside0.mk A240
            clear A240
            by_cases c25 : t392 = true
            · subst c25
              have H1 : ((abacistref31_Good.f kj4 l1).bind fun t393 => (abacistlaw31_NaturalSums.j1 kj4 l0 l1 t372 t373 t377 t380 t381 t384 t388 t391 (!t393))) = some r := by rw [if_pos rfl] at H; exact H
              clear H
              have H := H1
              clear H1
              replace H := Option.bind_eq_some_iff.mp H
              obtain ⟨t393, A260, H⟩ := H
              replace H : (abacistlaw31_NaturalSums.j1 kj4 l0 l1 t372 t373 t377 t380 t381 t384 t388 t391 (!t393)) = some r := H
              have A26 := Aside0.mk A260
              clear A260
              have H' := Aside0.mk H
              clear H
              go_wp2_with (first | ((with_reducible refine gate_callee (f := 25) rfl ?_); refine goesL_ (some 52) rfl rfl Try.func25 (by kernel_rfl) rfl #[.slice A0 l0.length c0] rfl (by (try simp only [List.map_toArray, List.map_cons, List.map_nil]); first | done | rfl | (simp only [List.length_drop, List.length_take]; rfl)) ?_; (with_reducible refine (abacistref31_Good.calls kj4 _ _ l0 true _ ?side1 ?side2 A24.out).mono ?_); (case side1 => repeat (first | exact (Kd.V_reads' HO_0.out).2.2 | (with_reducible refine Kd.C_alloc ?_ _) | (with_reducible refine Kd.C_drewN ?_ _) | (with_reducible refine Kd.C_drew ?_))); (case side2 => exact (Kd.V_reads' HO_0.out).2.1); rintro e w' ⟨rfl, ⟨nd, rfl⟩⟩; refine ⟨_, rfl, ?_⟩) | (go_at_call 25; (with_reducible refine (abacistref31_Good.calls kj4 _ _ l0 true _ ?side1 ?side2 A24.out).mono ?_); (case side1 => repeat (first | exact (Kd.V_reads' HO_0.out).2.2 | (with_reducible refine Kd.C_alloc ?_ _) | (with_reducible refine Kd.C_drewN ?_ _) | (with_reducible refine Kd.C_drew ?_))); (case side2 => exact (Kd.V_reads' HO_0.out).2.1); rintro e w' ⟨rfl, ⟨nd, rfl⟩⟩) | (go_at_call 25; (with_reducible refine (abacistref31_Good.calls kj4 _ _ l1 t393 _ ?side1 ?side2 A26.out).mono ?_); (case side1 => repeat (first | exact (Kd.V_reads' HO_1.out).2.2 | (with_reducible refine Kd.C_alloc ?_ _) | (with_reducible refine Kd.C_drewN ?_ _) | (with_reducible refine Kd.C_drew ?_))); (case side2 => exact (Kd.V_reads' HO_1.out).2.1); rintro e w' ⟨rfl, ⟨nd, rfl⟩⟩))
              go_meet
              case rel => exact ⟨_, (!t393), (by first | rfl | (simp; done) | (simp [*]; done)), H', ⟨by have := HJ4.out; first | omega | exact Nat.le_refl _⟩, ⟨by (with_reducible repeat (first | apply Kd.V_alloc | apply Kd.V_drewN | apply Kd.V_drew)); exact Kd.V_mono HO_0.out (fun _ hk => hk.1.1)⟩, ⟨by (with_reducible repeat (first | apply Kd.V_alloc | apply Kd.V_drewN | apply Kd.V_drew)); exact Kd.V_mono HO_1.out (fun _ hk => hk.1.1)⟩, ⟨by (with_reducible repeat (first | apply Kd.V_alloc | apply Kd.V_drewN | apply Kd.V_drew)); exact Kd.V_mono HO379.out (fun _ hk => hk.1.1)⟩, ⟨by (with_reducible repeat (first | apply Kd.V_alloc | apply Kd.V_drewN | apply Kd.V_drew)); exact Kd.V_mono HO383.out (fun _ hk => hk.1.1)⟩, ⟨by (with_reducible repeat (first | apply Kd.V_alloc | apply Kd.V_drewN | apply Kd.V_drew)); exact Kd.V_mono HO390.out (fun _ hk => hk.1)⟩, ⟨by repeat (first | (with_reducible first | exact HB.out | apply below_alloc | apply pw_below_drewN | apply below_drew1) | exact HB.out)⟩⟩
            · replace c25 := Bool.eq_false_iff.mpr c25
              subst c25
              have H1 : (abacistlaw31_NaturalSums.j1 kj4 l0 l1 t372 t373 t377 t380 t381 t384 t388 t391 true) = some r := by rw [if_neg (show ¬ (false = true) by decide)] at H; exact H
              clear H
              have H := H1
              clear H1
              have H' := Aside0.mk H
              clear H
              go_wp2_with (first | ((with_reducible refine gate_callee (f := 25) rfl ?_); refine goesL_ (some 52) rfl rfl Try.func25 (by kernel_rfl) rfl #[.slice A0 l0.length c0] rfl (by (try simp only [List.map_toArray, List.map_cons, List.map_nil]); first | done | rfl | (simp only [List.length_drop, List.length_take]; rfl)) ?_; (with_reducible refine (abacistref31_Good.calls kj4 _ _ l0 false _ ?side1 ?side2 A24.out).mono ?_); (case side1 => repeat (first | exact (Kd.V_reads' HO_0.out).2.2 | (with_reducible refine Kd.C_alloc ?_ _) | (with_reducible refine Kd.C_drewN ?_ _) | (with_reducible refine Kd.C_drew ?_))); (case side2 => exact (Kd.V_reads' HO_0.out).2.1); rintro e w' ⟨rfl, ⟨nd, rfl⟩⟩; refine ⟨_, rfl, ?_⟩) | (go_at_call 25; (with_reducible refine (abacistref31_Good.calls kj4 _ _ l0 false _ ?side1 ?side2 A24.out).mono ?_); (case side1 => repeat (first | exact (Kd.V_reads' HO_0.out).2.2 | (with_reducible refine Kd.C_alloc ?_ _) | (with_reducible refine Kd.C_drewN ?_ _) | (with_reducible refine Kd.C_drew ?_))); (case side2 => exact (Kd.V_reads' HO_0.out).2.1); rintro e w' ⟨rfl, ⟨nd, rfl⟩⟩))
              go_meet
              case rel => exact ⟨_, (true), (by first | rfl | (simp; done) | (simp [*]; done)), H', ⟨by have := HJ4.out; first | omega | exact Nat.le_refl _⟩, ⟨by (with_reducible repeat (first | apply Kd.V_alloc | apply Kd.V_drewN | apply Kd.V_drew)); exact Kd.V_mono HO_0.out (fun _ hk => hk.1.1)⟩, ⟨by (with_reducible repeat (first | apply Kd.V_alloc | apply Kd.V_drewN | apply Kd.V_drew)); exact Kd.V_mono HO_1.out (fun _ hk => hk.1.1)⟩, ⟨by (with_reducible repeat (first | apply Kd.V_alloc | apply Kd.V_drewN | apply Kd.V_drew)); exact Kd.V_mono HO379.out (fun _ hk => hk.1.1)⟩, ⟨by (with_reducible repeat (first | apply Kd.V_alloc | apply Kd.V_drewN | apply Kd.V_drew)); exact Kd.V_mono HO383.out (fun _ hk => hk.1.1)⟩, ⟨by (with_reducible repeat (first | apply Kd.V_alloc | apply Kd.V_drewN | apply Kd.V_drew)); exact Kd.V_mono HO390.out (fun _ hk => hk.1)⟩, ⟨by repeat (first | (with_reducible first | exact HB.out | apply below_alloc | apply pw_below_drewN | apply below_drew1) | exact HB.out)⟩⟩
          case rest =>
            clear HC13
            try clear c1
            try clear c2
            try clear p2
            try clear c3
            try clear c4
            try clear c7
            try clear c7b0
            try clear c7b1
            try clear c8
            try clear c9
            try clear c24
            try clear c25
            try clear c26
            try clear p2
            obtain ⟨kq, x58_12, rfl, HA, HJ12, HO_0, HO_1, HO_7, HO_9, HO_11, HB⟩ := hcut
            cases kq with
            | zero => exact absurd HA.out (by simp [abacistlaw31_NaturalSums.j1])
            | succ kj12 =>
              have H := HA.out
              clear HA
              simp only [abacistlaw31_NaturalSums.j1] at H
              by_cases c27 : x58_12 = true
              · subst c27
                have H1 : (if t373 = 10 then (if t380 = 10 then (if t384 = 10 then (if t391 = 10 then (if t372 = 0 then (if (t377.length : Int) = 0 then (if (t381.length : Int) = 0 then (some ((t388.length : Int) == 0)) else (some false)) else (some false)) else (some false)) else (some false)) else (some false)) else (some false)) else (some false)) = some r := by rw [if_pos rfl] at H; exact H
                clear H
                have H := H1
                clear H1
                by_cases c28 : t373 = 10
                · rw [if_pos c28] at H
                  have c28b0 : (t373 == 10) = true := beq_iff_eq.mpr c28
                  have c28b1 : (t373 != 10) = false := bne_eq_false_iff_eq.mpr c28
                  clear c28
                  by_cases c29 : t380 = 10
                  · rw [if_pos c29] at H
                    have c29b0 : (t380 == 10) = true := beq_iff_eq.mpr c29
                    have c29b1 : (t380 != 10) = false := bne_eq_false_iff_eq.mpr c29
                    clear c29
                    by_cases c30 : t384 = 10
                    · rw [if_pos c30] at H
                      have c30b0 : (t384 == 10) = true := beq_iff_eq.mpr c30
                      have c30b1 : (t384 != 10) = false := bne_eq_false_iff_eq.mpr c30
                      clear c30
                      by_cases c31 : t391 = 10
                      · rw [if_pos c31] at H
                        have c31b0 : (t391 == 10) = true := beq_iff_eq.mpr c31
                        have c31b1 : (t391 != 10) = false := bne_eq_false_iff_eq.mpr c31
                        clear c31
                        by_cases c32 : t372 = 0
                        · rw [if_pos c32] at H
                          have c32b0 : (t372 == 0) = true := beq_iff_eq.mpr c32
                          have c32b1 : (t372 != 0) = false := bne_eq_false_iff_eq.mpr c32
                          clear c32
                          by_cases c33 : (t377.length : Int) = 0
                          · rw [if_pos c33] at H
                            have c33b0 : ((t377.length : Int) == 0) = true := beq_iff_eq.mpr c33
                            have c33b1 : ((t377.length : Int) != 0) = false := bne_eq_false_iff_eq.mpr c33
                            clear c33
                            by_cases c34 : (t381.length : Int) = 0
                            · rw [if_pos c34] at H
                              have c34b0 : ((t381.length : Int) == 0) = true := beq_iff_eq.mpr c34
                              have c34b1 : ((t381.length : Int) != 0) = false := bne_eq_false_iff_eq.mpr c34
                              clear c34
                              obtain rfl := Option.some.inj H
                              obtain ⟨Ao35, co35, eo35⟩ := Kd.V_slice HO_7.out
                              subst eo35
                              obtain ⟨Ao36, co36, eo36⟩ := Kd.V_slice HO_9.out
                              subst eo36
                              obtain ⟨Ao37, co37, eo37⟩ := Kd.V_slice HO_11.out
                              subst eo37
                              go_wp2
                              go_ret
                              exact ⟨by first | rfl | (simp [errW_none, errW_some] <;> rfl) | (simp [*, errW_none, errW_some] <;> rfl), by repeat (first | (with_reducible first | exact HB.out | apply below_alloc | apply pw_below_drewN | apply below_drew1) | exact HB.out)⟩
                            · rw [if_neg c34] at H
                              have c34b0 : ((t381.length : Int) == 0) = false := beq_eq_false_iff_ne.mpr c34
                              have c34b1 : ((t381.length : Int) != 0) = true := bne_iff_ne.mpr c34
                              have c34b2 : ¬ (t381 = []) := fun h_ => c34 (by rw [h_]; rfl)
                              obtain rfl := Option.some.inj H
                              exact absurd hr_.out (by decide)
                          · rw [if_neg c33] at H
                            have c33b0 : ((t377.length : Int) == 0) = false := beq_eq_false_iff_ne.mpr c33
                            have c33b1 : ((t377.length : Int) != 0) = true := bne_iff_ne.mpr c33
                            have c33b2 : ¬ (t377 = []) := fun h_ => c33 (by rw [h_]; rfl)
                            obtain rfl := Option.some.inj H
                            exact absurd hr_.out (by decide)
                        · rw [if_neg c32] at H
                          have c32b0 : (t372 == 0) = false := beq_eq_false_iff_ne.mpr c32
                          have c32b1 : (t372 != 0) = true := bne_iff_ne.mpr c32
                          obtain rfl := Option.some.inj H
                          exact absurd hr_.out (by decide)
                      · rw [if_neg c31] at H
                        have c31b0 : (t391 == 10) = false := beq_eq_false_iff_ne.mpr c31
                        have c31b1 : (t391 != 10) = true := bne_iff_ne.mpr c31
                        obtain rfl := Option.some.inj H
                        exact absurd hr_.out (by decide)
                    · rw [if_neg c30] at H
                      have c30b0 : (t384 == 10) = false := beq_eq_false_iff_ne.mpr c30
                      have c30b1 : (t384 != 10) = true := bne_iff_ne.mpr c30
                      obtain rfl := Option.some.inj H
                      exact absurd hr_.out (by decide)
                  · rw [if_neg c29] at H
                    have c29b0 : (t380 == 10) = false := beq_eq_false_iff_ne.mpr c29
                    have c29b1 : (t380 != 10) = true := bne_iff_ne.mpr c29
                    obtain rfl := Option.some.inj H
                    exact absurd hr_.out (by decide)
                · rw [if_neg c28] at H
                  have c28b0 : (t373 == 10) = false := beq_eq_false_iff_ne.mpr c28
                  have c28b1 : (t373 != 10) = true := bne_iff_ne.mpr c28
                  obtain rfl := Option.some.inj H
                  exact absurd hr_.out (by decide)
              · replace c27 := Bool.eq_false_iff.mpr c27
                subst c27
                have H1 : ((abacistref31_Less.f kj12 l0 l1).bind fun t394 => (if t394 = true then (abacistlaw31_NaturalSums.j2 kj12 l0 l1 t372 t373 t377 t380 t381 t384 t388 t391 (-1)) else (abacistlaw31_NaturalSums.j2 kj12 l0 l1 t372 t373 t377 t380 t381 t384 t388 t391 0))) = some r := by rw [if_neg (show ¬ (false = true) by decide)] at H; exact H
                clear H
                have H := H1
                clear H1
                replace H := Option.bind_eq_some_iff.mp H
                obtain ⟨t394, A380, H⟩ := H
                replace H : (if t394 = true then (abacistlaw31_NaturalSums.j2 kj12 l0 l1 t372 t373 t377 t380 t381 t384 t388 t391 (-1)) else (abacistlaw31_NaturalSums.j2 kj12 l0 l1 t372 t373 t377 t380 t381 t384 t388 t391 0)) = some r := H
                have A38 := Aside0.mk A380
                clear A380
                have HC39 := Aside0.mk H
                clear H
                go_upto_if 94 with (first | ((with_reducible refine gate_callee (f := 34) rfl ?_); refine goesL_ (some 94) rfl rfl Try.func34 (by kernel_rfl) rfl #[.slice A0 l0.length c0, .slice A1 l1.length c1] rfl (by (try simp only [List.map_toArray, List.map_cons, List.map_nil]); first | done | rfl | (simp only [List.length_drop, List.length_take]; rfl)) ?_; (with_reducible refine (abacistref31_Less.calls kj12 _ _ l0 _ _ l1 t394 _ ?side1 ?side2 ?side3 ?side4 A38.out).mono ?_); (case side1 => repeat (first | exact (Kd.V_reads' HO_0.out).2.2 | (with_reducible refine Kd.C_alloc ?_ _) | (with_reducible refine Kd.C_drewN ?_ _) | (with_reducible refine Kd.C_drew ?_))); (case side2 => exact (Kd.V_reads' HO_0.out).2.1); (case side3 => repeat (first | exact (Kd.V_reads' HO_1.out).2.2 | (with_reducible refine Kd.C_alloc ?_ _) | (with_reducible refine Kd.C_drewN ?_ _) | (with_reducible refine Kd.C_drew ?_))); (case side4 => exact (Kd.V_reads' HO_1.out).2.1); rintro e w' ⟨rfl, ⟨nd, rfl⟩⟩; refine ⟨_, rfl, ?_⟩) | (go_at_call 34; (with_reducible refine (abacistref31_Less.calls kj12 _ _ l0 _ _ l1 t394 _ ?side1 ?side2 ?side3 ?side4 A38.out).mono ?_); (case side1 => repeat (first | exact (Kd.V_reads' HO_0.out).2.2 | (with_reducible refine Kd.C_alloc ?_ _) | (with_reducible refine Kd.C_drewN ?_ _) | (with_reducible refine Kd.C_drew ?_))); (case side2 => exact (Kd.V_reads' HO_0.out).2.1); (case side3 => repeat (first | exact (Kd.V_reads' HO_1.out).2.2 | (with_reducible refine Kd.C_alloc ?_ _) | (with_reducible refine Kd.C_drewN ?_ _) | (with_reducible refine Kd.C_drew ?_))); (case side4 => exact (Kd.V_reads' HO_1.out).2.1); rintro e w' ⟨rfl, ⟨nd, rfl⟩⟩))
                (try simp only [Act.put, List.setIfInBounds_toArray, List.set_cons_zero, List.set_cons_succ])
                go_cut [13] (fun v13 wc => ∃ (kq : Nat) (x13_38 : Int), v13 = .int .i64 x13_38 ∧ Aside0 (abacistlaw31_NaturalSums.j2 kq l0 l1 t372 t373 t377 t380 t381 t384 t388 t391 x13_38 = some r) ∧ Aside0 (kq ≤ kj12) ∧ Aside0 (Kd.V (Kd.int .u64) 29 wc w.heap.size (fun k_ => ((P0_ k_ ∨ P1_ k_) ∨ w.heap.size ≤ k_)) (.slice A0 l0.length c0) l0) ∧ Aside0 (Kd.V (Kd.int .u64) 29 wc w.heap.size (fun k_ => ((P0_ k_ ∨ P1_ k_) ∨ w.heap.size ≤ k_)) (.slice A1 l1.length c1) l1) ∧ Aside0 (Kd.V (Kd.int .u64) 29 wc w.heap.size (fun k_ => ((P0_ k_ ∨ P1_ k_) ∨ w.heap.size ≤ k_)) v378 t377) ∧ Aside0 (Kd.V (Kd.int .u64) 29 wc w.heap.size (fun k_ => ((P0_ k_ ∨ P1_ k_) ∨ w.heap.size ≤ k_)) v382 t381) ∧ Aside0 (Kd.V (Kd.int .u64) 29 wc w.heap.size (fun k_ => ((P0_ k_ ∨ P1_ k_) ∨ w.heap.size ≤ k_)) v389 t388) ∧ Aside0 (Below w.heap.size w wc))
                case first =>
                  have H := HC39.out
                  clear HC39
                  by_cases c40 : t394 = true
                  · subst c40
                    have H1 : (abacistlaw31_NaturalSums.j2 kj12 l0 l1 t372 t373 t377 t380 t381 t384 t388 t391 (-1)) = some r := by rw [if_pos rfl] at H; exact H
                    clear H
                    have H := H1
                    clear H1
                    have H' := Aside0.mk H
                    clear H
                    go_wp2
                    go_meet
                    case rel => exact ⟨_, ((-1)), (by first | rfl | (simp; done) | (simp [*]; done)), H', ⟨by have := HJ4.out; have := HJ12.out; first | omega | exact Nat.le_refl _⟩, ⟨by (with_reducible repeat (first | apply Kd.V_alloc | apply Kd.V_drewN | apply Kd.V_drew)); exact HO_0.out⟩, ⟨by (with_reducible repeat (first | apply Kd.V_alloc | apply Kd.V_drewN | apply Kd.V_drew)); exact HO_1.out⟩, ⟨by (with_reducible repeat (first | apply Kd.V_alloc | apply Kd.V_drewN | apply Kd.V_drew)); exact HO_7.out⟩, ⟨by (with_reducible repeat (first | apply Kd.V_alloc | apply Kd.V_drewN | apply Kd.V_drew)); exact HO_9.out⟩, ⟨by (with_reducible repeat (first | apply Kd.V_alloc | apply Kd.V_drewN | apply Kd.V_drew)); exact HO_11.out⟩, ⟨by repeat (first | (with_reducible first | exact HB.out | apply below_alloc | apply pw_below_drewN | apply below_drew1) | exact HB.out)⟩⟩
                  · replace c40 := Bool.eq_false_iff.mpr c40
                    subst c40
                    have H1 : (abacistlaw31_NaturalSums.j2 kj12 l0 l1 t372 t373 t377 t380 t381 t384 t388 t391 0) = some r := by rw [if_neg (show ¬ (false = true) by decide)] at H; exact H
                    clear H
                    have H := H1
                    clear H1
                    have H' := Aside0.mk H
                    clear H
                    go_wp2
                    go_meet
                    case rel => exact ⟨_, (0), (by first | rfl | (simp; done) | (simp [*]; done)), H', ⟨by have := HJ4.out; have := HJ12.out; first | omega | exact Nat.le_refl _⟩, ⟨by (with_reducible repeat (first | apply Kd.V_alloc | apply Kd.V_drewN | apply Kd.V_drew)); exact HO_0.out⟩, ⟨by (with_reducible repeat (first | apply Kd.V_alloc | apply Kd.V_drewN | apply Kd.V_drew)); exact HO_1.out⟩, ⟨by (with_reducible repeat (first | apply Kd.V_alloc | apply Kd.V_drewN | apply Kd.V_drew)); exact HO_7.out⟩, ⟨by (with_reducible repeat (first | apply Kd.V_alloc | apply Kd.V_drewN | apply Kd.V_drew)); exact HO_9.out⟩, ⟨by (with_reducible repeat (first | apply Kd.V_alloc | apply Kd.V_drewN | apply Kd.V_drew)); exact HO_11.out⟩, ⟨by repeat (first | (with_reducible first | exact HB.out | apply below_alloc | apply pw_below_drewN | apply below_drew1) | exact HB.out)⟩⟩
                case rest =>
                  clear HC39
                  try clear c1
                  try clear c2
                  try clear p2
                  try clear c3
                  try clear c4
                  try clear c7
                  try clear c7b0
                  try clear c7b1
                  try clear c8
                  try clear c9
                  try clear c24
                  try clear c25
                  try clear c26
                  try clear c27
                  try clear c28
                  try clear c28b0
                  try clear c28b1
                  try clear c29
                  try clear c29b0
                  try clear c29b1
                  try clear c30
                  try clear c30b0
                  try clear c30b1
                  try clear c31
                  try clear c31b0
                  try clear c31b1
                  try clear c32
                  try clear c32b0
                  try clear c32b1
                  try clear c33
                  try clear c33b0
                  try clear c33b1
                  try clear c33b2
                  try clear c34
                  try clear c34b0
                  try clear c34b1
                  try clear c34b2
                  try clear c36
                  try clear c37
                  try clear c40
                  try clear p2
                  obtain ⟨kq, x13_38, rfl, HA, HJ38, HO_0, HO_1, HO_7, HO_9, HO_11, HB⟩ := hcut
                  cases kq with
                  | zero => exact absurd HA.out (by simp [abacistlaw31_NaturalSums.j2])
                  | succ kj38 =>
                    have H := HA.out
                    clear HA
                    simp only [abacistlaw31_NaturalSums.j2] at H
                    replace H := Option.bind_eq_some_iff.mp H
                    obtain ⟨t395, A410, H⟩ := H
                    replace H : (if t395 = true then (abacistlaw31_NaturalSums.j3 kj38 l0 l1 t372 t373 t377 t380 t381 t384 t388 t391 1) else (abacistlaw31_NaturalSums.j3 kj38 l0 l1 t372 t373 t377 t380 t381 t384 t388 t391 x13_38)) = some r := H
                    have A41 := Aside0.mk A410
                    clear A410
                    have HC42 := Aside0.mk H
                    clear H
                    go_upto_if 97 with (first | ((with_reducible refine gate_callee (f := 34) rfl ?_); refine goesL_ (some 97) rfl rfl Try.func34 (by kernel_rfl) rfl #[.slice A1 l1.length c1, .slice A0 l0.length c0] rfl (by (try simp only [List.map_toArray, List.map_cons, List.map_nil]); first | done | rfl | (simp only [List.length_drop, List.length_take]; rfl)) ?_; (with_reducible refine (abacistref31_Less.calls kj38 _ _ l1 _ _ l0 t395 _ ?side1 ?side2 ?side3 ?side4 A41.out).mono ?_); (case side1 => repeat (first | exact (Kd.V_reads' HO_1.out).2.2 | (with_reducible refine Kd.C_alloc ?_ _) | (with_reducible refine Kd.C_drewN ?_ _) | (with_reducible refine Kd.C_drew ?_))); (case side2 => exact (Kd.V_reads' HO_1.out).2.1); (case side3 => repeat (first | exact (Kd.V_reads' HO_0.out).2.2 | (with_reducible refine Kd.C_alloc ?_ _) | (with_reducible refine Kd.C_drewN ?_ _) | (with_reducible refine Kd.C_drew ?_))); (case side4 => exact (Kd.V_reads' HO_0.out).2.1); rintro e w' ⟨rfl, ⟨nd, rfl⟩⟩; refine ⟨_, rfl, ?_⟩) | (go_at_call 34; (with_reducible refine (abacistref31_Less.calls kj38 _ _ l1 _ _ l0 t395 _ ?side1 ?side2 ?side3 ?side4 A41.out).mono ?_); (case side1 => repeat (first | exact (Kd.V_reads' HO_1.out).2.2 | (with_reducible refine Kd.C_alloc ?_ _) | (with_reducible refine Kd.C_drewN ?_ _) | (with_reducible refine Kd.C_drew ?_))); (case side2 => exact (Kd.V_reads' HO_1.out).2.1); (case side3 => repeat (first | exact (Kd.V_reads' HO_0.out).2.2 | (with_reducible refine Kd.C_alloc ?_ _) | (with_reducible refine Kd.C_drewN ?_ _) | (with_reducible refine Kd.C_drew ?_))); (case side4 => exact (Kd.V_reads' HO_0.out).2.1); rintro e w' ⟨rfl, ⟨nd, rfl⟩⟩))
                    (try simp only [Act.put, List.setIfInBounds_toArray, List.set_cons_zero, List.set_cons_succ])
                    go_cut [13] (fun v13 wc => ∃ (kq : Nat) (x13_41 : Int), v13 = .int .i64 x13_41 ∧ Aside0 (abacistlaw31_NaturalSums.j3 kq l0 l1 t372 t373 t377 t380 t381 t384 t388 t391 x13_41 = some r) ∧ Aside0 (kq ≤ kj38) ∧ Aside0 (Kd.V (Kd.int .u64) 29 wc w.heap.size (fun k_ => ((P0_ k_ ∨ P1_ k_) ∨ w.heap.size ≤ k_)) (.slice A0 l0.length c0) l0) ∧ Aside0 (Kd.V (Kd.int .u64) 29 wc w.heap.size (fun k_ => ((P0_ k_ ∨ P1_ k_) ∨ w.heap.size ≤ k_)) (.slice A1 l1.length c1) l1) ∧ Aside0 (Kd.V (Kd.int .u64) 29 wc w.heap.size (fun k_ => ((P0_ k_ ∨ P1_ k_) ∨ w.heap.size ≤ k_)) v378 t377) ∧ Aside0 (Kd.V (Kd.int .u64) 29 wc w.heap.size (fun k_ => ((P0_ k_ ∨ P1_ k_) ∨ w.heap.size ≤ k_)) v382 t381) ∧ Aside0 (Kd.V (Kd.int .u64) 29 wc w.heap.size (fun k_ => ((P0_ k_ ∨ P1_ k_) ∨ w.heap.size ≤ k_)) v389 t388) ∧ Aside0 (Below w.heap.size w wc))
                    case first =>
                      have H := HC42.out
                      clear HC42
                      by_cases c43 : t395 = true
                      · subst c43
                        have H1 : (abacistlaw31_NaturalSums.j3 kj38 l0 l1 t372 t373 t377 t380 t381 t384 t388 t391 1) = some r := by rw [if_pos rfl] at H; exact H
                        clear H
                        have H := H1
                        clear H1
                        have H' := Aside0.mk H
                        clear H
                        go_wp2
                        go_meet
                        case rel => exact ⟨_, (1), (by first | rfl | (simp; done) | (simp [*]; done)), H', ⟨by have := HJ4.out; have := HJ12.out; have := HJ38.out; first | omega | exact Nat.le_refl _⟩, ⟨by (with_reducible repeat (first | apply Kd.V_alloc | apply Kd.V_drewN | apply Kd.V_drew)); exact HO_0.out⟩, ⟨by (with_reducible repeat (first | apply Kd.V_alloc | apply Kd.V_drewN | apply Kd.V_drew)); exact HO_1.out⟩, ⟨by (with_reducible repeat (first | apply Kd.V_alloc | apply Kd.V_drewN | apply Kd.V_drew)); exact HO_7.out⟩, ⟨by (with_reducible repeat (first | apply Kd.V_alloc | apply Kd.V_drewN | apply Kd.V_drew)); exact HO_9.out⟩, ⟨by (with_reducible repeat (first | apply Kd.V_alloc | apply Kd.V_drewN | apply Kd.V_drew)); exact HO_11.out⟩, ⟨by repeat (first | (with_reducible first | exact HB.out | apply below_alloc | apply pw_below_drewN | apply below_drew1) | exact HB.out)⟩⟩
                      · replace c43 := Bool.eq_false_iff.mpr c43
                        subst c43
                        have H1 : (abacistlaw31_NaturalSums.j3 kj38 l0 l1 t372 t373 t377 t380 t381 t384 t388 t391 x13_38) = some r := by rw [if_neg (show ¬ (false = true) by decide)] at H; exact H
                        clear H
                        have H := H1
                        clear H1
                        have H' := Aside0.mk H
                        clear H
                        go_wp2
                        go_meet
                        case rel => exact ⟨_, (x13_38), (by first | rfl | (simp; done) | (simp [*]; done)), H', ⟨by have := HJ4.out; have := HJ12.out; have := HJ38.out; first | omega | exact Nat.le_refl _⟩, ⟨by (with_reducible repeat (first | apply Kd.V_alloc | apply Kd.V_drewN | apply Kd.V_drew)); exact HO_0.out⟩, ⟨by (with_reducible repeat (first | apply Kd.V_alloc | apply Kd.V_drewN | apply Kd.V_drew)); exact HO_1.out⟩, ⟨by (with_reducible repeat (first | apply Kd.V_alloc | apply Kd.V_drewN | apply Kd.V_drew)); exact HO_7.out⟩, ⟨by (with_reducible repeat (first | apply Kd.V_alloc | apply Kd.V_drewN | apply Kd.V_drew)); exact HO_9.out⟩, ⟨by (with_reducible repeat (first | apply Kd.V_alloc | apply Kd.V_drewN | apply Kd.V_drew)); exact HO_11.out⟩, ⟨by repeat (first | (with_reducible first | exact HB.out | apply below_alloc | apply pw_below_drewN | apply below_drew1) | exact HB.out)⟩⟩
                    case rest =>
                      clear HC42
                      try clear c1
                      try clear c2
                      try clear p2
                      try clear c3
                      try clear c4
                      try clear c7
                      try clear c7b0
                      try clear c7b1
                      try clear c8
                      try clear c9
                      try clear c24
                      try clear c25
                      try clear c26
                      try clear c27
                      try clear c28
                      try clear c28b0
                      try clear c28b1
                      try clear c29
                      try clear c29b0
                      try clear c29b1
                      try clear c30
                      try clear c30b0
                      try clear c30b1
                      try clear c31
                      try clear c31b0
                      try clear c31b1
                      try clear c32
                      try clear c32b0
                      try clear c32b1
                      try clear c33
                      try clear c33b0
                      try clear c33b1
                      try clear c33b2
                      try clear c34
                      try clear c34b0
                      try clear c34b1
                      try clear c34b2
                      try clear c36
                      try clear c37
                      try clear c40
                      try clear c43
                      try clear p2
                      obtain ⟨kq, x13_41, rfl, HA, HJ41, HO_0, HO_1, HO_7, HO_9, HO_11, HB⟩ := hcut
                      cases kq with
                      | zero => exact absurd HA.out (by simp [abacistlaw31_NaturalSums.j3])
                      | succ kj41 =>
                        have H := HA.out
                        clear HA
                        simp only [abacistlaw31_NaturalSums.j3] at H
                        have HC44 := Aside0.mk H
                        clear H
                        go_upto_region 16 with (fail)
                        go_cut [130] (fun v130 wc => ∃ (kq : Nat) (x130_43 : Bool), v130 = .bool x130_43 ∧ Aside0 (abacistlaw31_NaturalSums.j4 kq l0 l1 t381 t384 x13_41 x130_43 = some r) ∧ Aside0 (kq ≤ kj41) ∧ Aside0 (Kd.V (Kd.int .u64) 29 wc w.heap.size (fun k_ => ((P0_ k_ ∨ P1_ k_) ∨ w.heap.size ≤ k_)) (.slice A0 l0.length c0) l0) ∧ Aside0 (Kd.V (Kd.int .u64) 29 wc w.heap.size (fun k_ => ((P0_ k_ ∨ P1_ k_) ∨ w.heap.size ≤ k_)) (.slice A1 l1.length c1) l1) ∧ Aside0 (Kd.V (Kd.int .u64) 29 wc w.heap.size (fun k_ => ((P0_ k_ ∨ P1_ k_) ∨ w.heap.size ≤ k_)) v382 t381) ∧ Aside0 (Below w.heap.size w wc))
                        case first =>
                          have H := HC44.out
                          clear HC44
                          by_cases c45 : t373 = 0
                          · rw [if_pos c45] at H
                            have c45b0 : (t373 == 0) = true := beq_iff_eq.mpr c45
                            have c45b1 : (t373 != 0) = false := bne_eq_false_iff_eq.mpr c45
                            clear c45
                            (first | rw [c45b0] | (simp only [i64_w, i32_w]; rw [c45b0]) | skip)
                            by_cases c46 : t372 = x13_41
                            · rw [if_pos c46] at H
                              have c46b0 : (t372 == x13_41) = true := beq_iff_eq.mpr c46
                              have c46b1 : (t372 != x13_41) = false := bne_eq_false_iff_eq.mpr c46
                              clear c46
                              by_cases c47 : t380 = 0
                              · rw [if_pos c47] at H
                                have c47b0 : (t380 == 0) = true := beq_iff_eq.mpr c47
                                have c47b1 : (t380 != 0) = false := bne_eq_false_iff_eq.mpr c47
                                clear c47
                                replace H := Option.bind_eq_some_iff.mp H
                                obtain ⟨t396, A480, H⟩ := H
                                replace H : ((abacistref31_Add.f kj41 t396 l0).bind fun t399 => ((abacistref04_Same.f kj41 t377 t399).bind fun t402 => (if t402 = true then (if t391 = 0 then ((abacistref31_Mul.f kj41 l0 l1).bind fun t403 => ((abacistref04_Same.f kj41 t388 t403).bind fun t406 => (abacistlaw31_NaturalSums.j4 kj41 l0 l1 t381 t384 x13_41 (!t406)))) else (abacistlaw31_NaturalSums.j4 kj41 l0 l1 t381 t384 x13_41 true)) else (abacistlaw31_NaturalSums.j4 kj41 l0 l1 t381 t384 x13_41 true)))) = some r := H
                                have A48 := Aside0.mk A480
                                clear A480
                                replace H := Option.bind_eq_some_iff.mp H
                                obtain ⟨t399, A490, H⟩ := H
                                replace H : ((abacistref04_Same.f kj41 t377 t399).bind fun t402 => (if t402 = true then (if t391 = 0 then ((abacistref31_Mul.f kj41 l0 l1).bind fun t403 => ((abacistref04_Same.f kj41 t388 t403).bind fun t406 => (abacistlaw31_NaturalSums.j4 kj41 l0 l1 t381 t384 x13_41 (!t406)))) else (abacistlaw31_NaturalSums.j4 kj41 l0 l1 t381 t384 x13_41 true)) else (abacistlaw31_NaturalSums.j4 kj41 l0 l1 t381 t384 x13_41 true))) = some r := H
                                have A49 := Aside0.mk A490
                                clear A490
                                replace H := Option.bind_eq_some_iff.mp H
                                obtain ⟨t402, A500, H⟩ := H
                                replace H : (if t402 = true then (if t391 = 0 then ((abacistref31_Mul.f kj41 l0 l1).bind fun t403 => ((abacistref04_Same.f kj41 t388 t403).bind fun t406 => (abacistlaw31_NaturalSums.j4 kj41 l0 l1 t381 t384 x13_41 (!t406)))) else (abacistlaw31_NaturalSums.j4 kj41 l0 l1 t381 t384 x13_41 true)) else (abacistlaw31_NaturalSums.j4 kj41 l0 l1 t381 t384 x13_41 true)) = some r := H
                                have A50 := Aside0.mk A500
                                clear A500
                                by_cases c51 : t402 = true
                                · subst c51
                                  have H1 : (if t391 = 0 then ((abacistref31_Mul.f kj41 l0 l1).bind fun t403 => ((abacistref04_Same.f kj41 t388 t403).bind fun t406 => (abacistlaw31_NaturalSums.j4 kj41 l0 l1 t381 t384 x13_41 (!t406)))) else (abacistlaw31_NaturalSums.j4 kj41 l0 l1 t381 t384 x13_41 true)) = some r := by rw [if_pos rfl] at H; exact H
                                  clear H
                                  have H := H1
                                  clear H1
                                  by_cases c52 : t391 = 0
                                  · rw [if_pos c52] at H
                                    have c52b0 : (t391 == 0) = true := beq_iff_eq.mpr c52
                                    have c52b1 : (t391 != 0) = false := bne_eq_false_iff_eq.mpr c52
                                    clear c52
                                    replace H := Option.bind_eq_some_iff.mp H
                                    obtain ⟨t403, A530, H⟩ := H
                                    replace H : ((abacistref04_Same.f kj41 t388 t403).bind fun t406 => (abacistlaw31_NaturalSums.j4 kj41 l0 l1 t381 t384 x13_41 (!t406))) = some r := H
                                    have A53 := Aside0.mk A530
                                    clear A530
                                    replace H := Option.bind_eq_some_iff.mp H
                                    obtain ⟨t406, A540, H⟩ := H
                                    replace H : (abacistlaw31_NaturalSums.j4 kj41 l0 l1 t381 t384 x13_41 (!t406)) = some r := H
                                    have A54 := Aside0.mk A540
                                    clear A540
                                    have H' := Aside0.mk H
                                    clear H
                                    go_wp2_with (first | (go_at_call 33; (with_reducible refine (abacistref31_Add.calls kj41 _ _ l0 _ _ l1 t396 _ ?side1 ?side2 ?side3 ?side4 A48.out).mono ?_); (case side1 => repeat (first | exact (Kd.V_reads' HO_0.out).2.2 | (with_reducible refine Kd.C_alloc ?_ _) | (with_reducible refine Kd.C_drewN ?_ _) | (with_reducible refine Kd.C_drew ?_))); (case side2 => exact (Kd.V_reads' HO_0.out).2.1); (case side3 => repeat (first | exact (Kd.V_reads' HO_1.out).2.2 | (with_reducible refine Kd.C_alloc ?_ _) | (with_reducible refine Kd.C_drewN ?_ _) | (with_reducible refine Kd.C_drew ?_))); (case side4 => exact (Kd.V_reads' HO_1.out).2.1); rintro e w55 ⟨v397, rfl, ho0, hb⟩; have n0_ := Aside0.mk (Kd.V_elder' (by (with_reducible repeat (first | apply Kd.V_alloc | apply Kd.V_drewN | apply Kd.V_drew)); exact HO_0.out) (Kd.R_base ho0) hb); have n1_ := Aside0.mk (Kd.V_elder' (by (with_reducible repeat (first | apply Kd.V_alloc | apply Kd.V_drewN | apply Kd.V_drew)); exact HO_1.out) (Kd.R_base ho0) hb); have n2_ := Aside0.mk (Kd.V_elder' (by (with_reducible repeat (first | apply Kd.V_alloc | apply Kd.V_drewN | apply Kd.V_drew)); exact HO_7.out) (Kd.R_base ho0) hb); have n3_ := Aside0.mk (Kd.V_elder' (by (with_reducible repeat (first | apply Kd.V_alloc | apply Kd.V_drewN | apply Kd.V_drew)); exact HO_9.out) (Kd.R_base ho0) hb); have n4_ := Aside0.mk (Kd.V_elder' (by (with_reducible repeat (first | apply Kd.V_alloc | apply Kd.V_drewN | apply Kd.V_drew)); exact HO_11.out) (Kd.R_base ho0) hb); have n5_ := Aside0.mk (Kd.R_lower (Kd.R_newM (M := fun k_ => (w.heap.size ≤ k_)) ho0 (below_size (by repeat (first | (with_reducible first | exact HB.out | apply below_alloc | apply pw_below_drewN | apply below_drew1) | exact HB.out))) (fun k_ h_ => h_)) (below_size (by repeat (first | (with_reducible first | exact HB.out | apply below_alloc | apply pw_below_drewN | apply below_drew1) | exact HB.out)))); have n6_ := Aside0.mk (below_step (by repeat (first | (with_reducible first | exact HB.out | apply below_alloc | apply pw_below_drewN | apply below_drew1) | exact HB.out)) hb); clear HO_0; clear HO_1; clear HO_7; clear HO_9; clear HO_11; clear HB; have HO_0 := n0_; have HO_1 := n1_; have HO_7 := n2_; have HO_9 := n3_; have HO_11 := n4_; have HO398 := n5_; have HB := n6_; clear n0_ n1_ n2_ n3_ n4_ n5_ n6_; (try clear hb); (try clear hb2); (try clear hk); (try clear hi); (try clear ho0); obtain ⟨Ao56, co56, eo56⟩ := Kd.R_slice HO398.out; subst eo56) | (go_at_call 33; (with_reducible refine (abacistref31_Add.calls kj41 _ _ t396 _ _ l0 t399 _ ?side1 ?side2 ?side3 ?side4 A49.out).mono ?_); (case side1 => repeat (first | exact (Kd.R_reads' HO398.out).2.2 | (with_reducible refine Kd.C_alloc ?_ _) | (with_reducible refine Kd.C_drewN ?_ _) | (with_reducible refine Kd.C_drew ?_))); (case side2 => exact (Kd.R_reads' HO398.out).2.1); (case side3 => repeat (first | exact (Kd.V_reads' HO_0.out).2.2 | (with_reducible refine Kd.C_alloc ?_ _) | (with_reducible refine Kd.C_drewN ?_ _) | (with_reducible refine Kd.C_drew ?_))); (case side4 => exact (Kd.V_reads' HO_0.out).2.1); rintro e w57 ⟨v400, rfl, ho0, hb⟩; have n0_ := Aside0.mk (Kd.V_elder' (by (with_reducible repeat (first | apply Kd.V_alloc | apply Kd.V_drewN | apply Kd.V_drew)); exact HO_0.out) (Kd.R_base ho0) hb); have n1_ := Aside0.mk (Kd.V_elder' (by (with_reducible repeat (first | apply Kd.V_alloc | apply Kd.V_drewN | apply Kd.V_drew)); exact HO_1.out) (Kd.R_base ho0) hb); have n2_ := Aside0.mk (Kd.V_elder' (by (with_reducible repeat (first | apply Kd.V_alloc | apply Kd.V_drewN | apply Kd.V_drew)); exact HO_7.out) (Kd.R_base ho0) hb); have n3_ := Aside0.mk (Kd.V_elder' (by (with_reducible repeat (first | apply Kd.V_alloc | apply Kd.V_drewN | apply Kd.V_drew)); exact HO_9.out) (Kd.R_base ho0) hb); have n4_ := Aside0.mk (Kd.V_elder' (by (with_reducible repeat (first | apply Kd.V_alloc | apply Kd.V_drewN | apply Kd.V_drew)); exact HO_11.out) (Kd.R_base ho0) hb); have n5_ := Aside0.mk (Kd.R_elder' (by (with_reducible repeat (first | apply Kd.R_alloc | apply Kd.R_drewN | apply Kd.R_drew)); exact HO398.out) (Kd.R_base ho0) hb); have n6_ := Aside0.mk (Kd.R_lower (Kd.R_new' (Kd.R_newM (M := fun k_ => (w.heap.size ≤ k_)) ho0 (below_size (by repeat (first | (with_reducible first | exact HB.out | apply below_alloc | apply pw_below_drewN | apply below_drew1) | exact HB.out))) (fun k_ h_ => h_)) (Kd.R_lt (by (with_reducible repeat (first | apply Kd.R_alloc | apply Kd.R_drewN | apply Kd.R_drew)); exact HO398.out))) (below_size (by repeat (first | (with_reducible first | exact HB.out | apply below_alloc | apply pw_below_drewN | apply below_drew1) | exact HB.out)))); have n7_ := Aside0.mk (below_step (by repeat (first | (with_reducible first | exact HB.out | apply below_alloc | apply pw_below_drewN | apply below_drew1) | exact HB.out)) hb); clear HO_0; clear HO_1; clear HO_7; clear HO_9; clear HO_11; clear HO398; clear HB; have HO_0 := n0_; have HO_1 := n1_; have HO_7 := n2_; have HO_9 := n3_; have HO_11 := n4_; have HO398 := n5_; have HO401 := n6_; have HB := n7_; clear n0_ n1_ n2_ n3_ n4_ n5_ n6_ n7_; (try clear hb); (try clear hb2); (try clear hk); (try clear hi); (try clear ho0); obtain ⟨Ao58, co58, eo58⟩ := Kd.V_slice HO_7.out; subst eo58; obtain ⟨Ao59, co59, eo59⟩ := Kd.R_slice HO401.out; subst eo59) | (go_at_call 18; (with_reducible refine (abacistref04_Same.calls kj41 _ _ t377 _ _ t399 true _ ?side1 ?side2 ?side3 ?side4 A50.out).mono ?_); (case side1 => repeat (first | exact (Kd.V_reads' HO_7.out).2.2 | (with_reducible refine Kd.C_alloc ?_ _) | (with_reducible refine Kd.C_drewN ?_ _) | (with_reducible refine Kd.C_drew ?_))); (case side2 => exact (Kd.V_reads' HO_7.out).2.1); (case side3 => repeat (first | exact (Kd.R_reads' HO401.out).2.2 | (with_reducible refine Kd.C_alloc ?_ _) | (with_reducible refine Kd.C_drewN ?_ _) | (with_reducible refine Kd.C_drew ?_))); (case side4 => exact (Kd.R_reads' HO401.out).2.1); rintro e w' ⟨rfl, ⟨nd, rfl⟩⟩) | (go_at_call 29; (with_reducible refine (abacistref31_Mul.calls kj41 _ _ l0 _ _ l1 t403 _ ?side1 ?side2 ?side3 ?side4 A53.out).mono ?_); (case side1 => repeat (first | exact (Kd.V_reads' HO_0.out).2.2 | (with_reducible refine Kd.C_alloc ?_ _) | (with_reducible refine Kd.C_drewN ?_ _) | (with_reducible refine Kd.C_drew ?_))); (case side2 => exact (Kd.V_reads' HO_0.out).2.1); (case side3 => repeat (first | exact (Kd.V_reads' HO_1.out).2.2 | (with_reducible refine Kd.C_alloc ?_ _) | (with_reducible refine Kd.C_drewN ?_ _) | (with_reducible refine Kd.C_drew ?_))); (case side4 => exact (Kd.V_reads' HO_1.out).2.1); rintro e w60 ⟨v404, rfl, ho0, hb⟩; have n0_ := Aside0.mk (Kd.V_elder' (by (with_reducible repeat (first | apply Kd.V_alloc | apply Kd.V_drewN | apply Kd.V_drew)); exact HO_0.out) (Kd.R_base ho0) hb); have n1_ := Aside0.mk (Kd.V_elder' (by (with_reducible repeat (first | apply Kd.V_alloc | apply Kd.V_drewN | apply Kd.V_drew)); exact HO_1.out) (Kd.R_base ho0) hb); have n2_ := Aside0.mk (Kd.V_elder' (by (with_reducible repeat (first | apply Kd.V_alloc | apply Kd.V_drewN | apply Kd.V_drew)); exact HO_7.out) (Kd.R_base ho0) hb); have n3_ := Aside0.mk (Kd.V_elder' (by (with_reducible repeat (first | apply Kd.V_alloc | apply Kd.V_drewN | apply Kd.V_drew)); exact HO_9.out) (Kd.R_base ho0) hb); have n4_ := Aside0.mk (Kd.V_elder' (by (with_reducible repeat (first | apply Kd.V_alloc | apply Kd.V_drewN | apply Kd.V_drew)); exact HO_11.out) (Kd.R_base ho0) hb); have n5_ := Aside0.mk (Kd.R_elder' (by (with_reducible repeat (first | apply Kd.R_alloc | apply Kd.R_drewN | apply Kd.R_drew)); exact HO398.out) (Kd.R_base ho0) hb); have n6_ := Aside0.mk (Kd.R_elder' (by (with_reducible repeat (first | apply Kd.R_alloc | apply Kd.R_drewN | apply Kd.R_drew)); exact HO401.out) (Kd.R_base ho0) hb); have n7_ := Aside0.mk (Kd.R_lower (Kd.R_new' (Kd.R_new' (Kd.R_newM (M := fun k_ => (w.heap.size ≤ k_)) ho0 (below_size (by repeat (first | (with_reducible first | exact HB.out | apply below_alloc | apply pw_below_drewN | apply below_drew1) | exact HB.out))) (fun k_ h_ => h_)) (Kd.R_lt (by (with_reducible repeat (first | apply Kd.R_alloc | apply Kd.R_drewN | apply Kd.R_drew)); exact HO398.out))) (Kd.R_lt (by (with_reducible repeat (first | apply Kd.R_alloc | apply Kd.R_drewN | apply Kd.R_drew)); exact HO401.out))) (below_size (by repeat (first | (with_reducible first | exact HB.out | apply below_alloc | apply pw_below_drewN | apply below_drew1) | exact HB.out)))); have n8_ := Aside0.mk (below_step (by repeat (first | (with_reducible first | exact HB.out | apply below_alloc | apply pw_below_drewN | apply below_drew1) | exact HB.out)) hb); clear HO_0; clear HO_1; clear HO_7; clear HO_9; clear HO_11; clear HO398; clear HO401; clear HB; have HO_0 := n0_; have HO_1 := n1_; have HO_7 := n2_; have HO_9 := n3_; have HO_11 := n4_; have HO398 := n5_; have HO401 := n6_; have HO405 := n7_; have HB := n8_; clear n0_ n1_ n2_ n3_ n4_ n5_ n6_ n7_ n8_; (try clear hb); (try clear hb2); (try clear hk); (try clear hi); (try clear ho0); obtain ⟨Ao61, co61, eo61⟩ := Kd.V_slice HO_11.out; subst eo61; obtain ⟨Ao62, co62, eo62⟩ := Kd.R_slice HO405.out; subst eo62) | (go_at_call 18; (with_reducible refine (abacistref04_Same.calls kj41 _ _ t388 _ _ t403 t406 _ ?side1 ?side2 ?side3 ?side4 A54.out).mono ?_); (case side1 => repeat (first | exact (Kd.V_reads' HO_11.out).2.2 | (with_reducible refine Kd.C_alloc ?_ _) | (with_reducible refine Kd.C_drewN ?_ _) | (with_reducible refine Kd.C_drew ?_))); (case side2 => exact (Kd.V_reads' HO_11.out).2.1); (case side3 => repeat (first | exact (Kd.R_reads' HO405.out).2.2 | (with_reducible refine Kd.C_alloc ?_ _) | (with_reducible refine Kd.C_drewN ?_ _) | (with_reducible refine Kd.C_drew ?_))); (case side4 => exact (Kd.R_reads' HO405.out).2.1); rintro e w' ⟨rfl, ⟨nd, rfl⟩⟩))
                                    go_meet
                                    case rel => exact ⟨_, (!t406), (by first | rfl | (simp; done) | (simp [*]; done)), H', ⟨by have := HJ4.out; have := HJ12.out; have := HJ38.out; have := HJ41.out; first | omega | exact Nat.le_refl _⟩, ⟨by (with_reducible repeat (first | apply Kd.V_alloc | apply Kd.V_drewN | apply Kd.V_drew)); exact Kd.V_mono HO_0.out (fun _ hk => hk.1.1.1)⟩, ⟨by (with_reducible repeat (first | apply Kd.V_alloc | apply Kd.V_drewN | apply Kd.V_drew)); exact Kd.V_mono HO_1.out (fun _ hk => hk.1.1.1)⟩, ⟨by (with_reducible repeat (first | apply Kd.V_alloc | apply Kd.V_drewN | apply Kd.V_drew)); exact Kd.V_mono HO_9.out (fun _ hk => hk.1.1.1)⟩, ⟨by repeat (first | (with_reducible first | exact HB.out | apply below_alloc | apply pw_below_drewN | apply below_drew1) | exact HB.out)⟩⟩
                                  · rw [if_neg c52] at H
                                    have c52b0 : (t391 == 0) = false := beq_eq_false_iff_ne.mpr c52
                                    have c52b1 : (t391 != 0) = true := bne_iff_ne.mpr c52
                                    have H' := Aside0.mk H
                                    clear H
                                    go_wp2_with (first | (go_at_call 33; (with_reducible refine (abacistref31_Add.calls kj41 _ _ l0 _ _ l1 t396 _ ?side1 ?side2 ?side3 ?side4 A48.out).mono ?_); (case side1 => repeat (first | exact (Kd.V_reads' HO_0.out).2.2 | (with_reducible refine Kd.C_alloc ?_ _) | (with_reducible refine Kd.C_drewN ?_ _) | (with_reducible refine Kd.C_drew ?_))); (case side2 => exact (Kd.V_reads' HO_0.out).2.1); (case side3 => repeat (first | exact (Kd.V_reads' HO_1.out).2.2 | (with_reducible refine Kd.C_alloc ?_ _) | (with_reducible refine Kd.C_drewN ?_ _) | (with_reducible refine Kd.C_drew ?_))); (case side4 => exact (Kd.V_reads' HO_1.out).2.1); rintro e w63 ⟨v397, rfl, ho0, hb⟩; have n0_ := Aside0.mk (Kd.V_elder' (by (with_reducible repeat (first | apply Kd.V_alloc | apply Kd.V_drewN | apply Kd.V_drew)); exact HO_0.out) (Kd.R_base ho0) hb); have n1_ := Aside0.mk (Kd.V_elder' (by (with_reducible repeat (first | apply Kd.V_alloc | apply Kd.V_drewN | apply Kd.V_drew)); exact HO_1.out) (Kd.R_base ho0) hb); have n2_ := Aside0.mk (Kd.V_elder' (by (with_reducible repeat (first | apply Kd.V_alloc | apply Kd.V_drewN | apply Kd.V_drew)); exact HO_7.out) (Kd.R_base ho0) hb); have n3_ := Aside0.mk (Kd.V_elder' (by (with_reducible repeat (first | apply Kd.V_alloc | apply Kd.V_drewN | apply Kd.V_drew)); exact HO_9.out) (Kd.R_base ho0) hb); have n4_ := Aside0.mk (Kd.V_elder' (by (with_reducible repeat (first | apply Kd.V_alloc | apply Kd.V_drewN | apply Kd.V_drew)); exact HO_11.out) (Kd.R_base ho0) hb); have n5_ := Aside0.mk (Kd.R_lower (Kd.R_newM (M := fun k_ => (w.heap.size ≤ k_)) ho0 (below_size (by repeat (first | (with_reducible first | exact HB.out | apply below_alloc | apply pw_below_drewN | apply below_drew1) | exact HB.out))) (fun k_ h_ => h_)) (below_size (by repeat (first | (with_reducible first | exact HB.out | apply below_alloc | apply pw_below_drewN | apply below_drew1) | exact HB.out)))); have n6_ := Aside0.mk (below_step (by repeat (first | (with_reducible first | exact HB.out | apply below_alloc | apply pw_below_drewN | apply below_drew1) | exact HB.out)) hb); clear HO_0; clear HO_1; clear HO_7; clear HO_9; clear HO_11; clear HB; have HO_0 := n0_; have HO_1 := n1_; have HO_7 := n2_; have HO_9 := n3_; have HO_11 := n4_; have HO398 := n5_; have HB := n6_; clear n0_ n1_ n2_ n3_ n4_ n5_ n6_; (try clear hb); (try clear hb2); (try clear hk); (try clear hi); (try clear ho0); obtain ⟨Ao64, co64, eo64⟩ := Kd.R_slice HO398.out; subst eo64) | (go_at_call 33; (with_reducible refine (abacistref31_Add.calls kj41 _ _ t396 _ _ l0 t399 _ ?side1 ?side2 ?side3 ?side4 A49.out).mono ?_); (case side1 => repeat (first | exact (Kd.R_reads' HO398.out).2.2 | (with_reducible refine Kd.C_alloc ?_ _) | (with_reducible refine Kd.C_drewN ?_ _) | (with_reducible refine Kd.C_drew ?_))); (case side2 => exact (Kd.R_reads' HO398.out).2.1); (case side3 => repeat (first | exact (Kd.V_reads' HO_0.out).2.2 | (with_reducible refine Kd.C_alloc ?_ _) | (with_reducible refine Kd.C_drewN ?_ _) | (with_reducible refine Kd.C_drew ?_))); (case side4 => exact (Kd.V_reads' HO_0.out).2.1); rintro e w65 ⟨v400, rfl, ho0, hb⟩; have n0_ := Aside0.mk (Kd.V_elder' (by (with_reducible repeat (first | apply Kd.V_alloc | apply Kd.V_drewN | apply Kd.V_drew)); exact HO_0.out) (Kd.R_base ho0) hb); have n1_ := Aside0.mk (Kd.V_elder' (by (with_reducible repeat (first | apply Kd.V_alloc | apply Kd.V_drewN | apply Kd.V_drew)); exact HO_1.out) (Kd.R_base ho0) hb); have n2_ := Aside0.mk (Kd.V_elder' (by (with_reducible repeat (first | apply Kd.V_alloc | apply Kd.V_drewN | apply Kd.V_drew)); exact HO_7.out) (Kd.R_base ho0) hb); have n3_ := Aside0.mk (Kd.V_elder' (by (with_reducible repeat (first | apply Kd.V_alloc | apply Kd.V_drewN | apply Kd.V_drew)); exact HO_9.out) (Kd.R_base ho0) hb); have n4_ := Aside0.mk (Kd.V_elder' (by (with_reducible repeat (first | apply Kd.V_alloc | apply Kd.V_drewN | apply Kd.V_drew)); exact HO_11.out) (Kd.R_base ho0) hb); have n5_ := Aside0.mk (Kd.R_elder' (by (with_reducible repeat (first | apply Kd.R_alloc | apply Kd.R_drewN | apply Kd.R_drew)); exact HO398.out) (Kd.R_base ho0) hb); have n6_ := Aside0.mk (Kd.R_lower (Kd.R_new' (Kd.R_newM (M := fun k_ => (w.heap.size ≤ k_)) ho0 (below_size (by repeat (first | (with_reducible first | exact HB.out | apply below_alloc | apply pw_below_drewN | apply below_drew1) | exact HB.out))) (fun k_ h_ => h_)) (Kd.R_lt (by (with_reducible repeat (first | apply Kd.R_alloc | apply Kd.R_drewN | apply Kd.R_drew)); exact HO398.out))) (below_size (by repeat (first | (with_reducible first | exact HB.out | apply below_alloc | apply pw_below_drewN | apply below_drew1) | exact HB.out)))); have n7_ := Aside0.mk (below_step (by repeat (first | (with_reducible first | exact HB.out | apply below_alloc | apply pw_below_drewN | apply below_drew1) | exact HB.out)) hb); clear HO_0; clear HO_1; clear HO_7; clear HO_9; clear HO_11; clear HO398; clear HB; have HO_0 := n0_; have HO_1 := n1_; have HO_7 := n2_; have HO_9 := n3_; have HO_11 := n4_; have HO398 := n5_; have HO401 := n6_; have HB := n7_; clear n0_ n1_ n2_ n3_ n4_ n5_ n6_ n7_; (try clear hb); (try clear hb2); (try clear hk); (try clear hi); (try clear ho0); obtain ⟨Ao66, co66, eo66⟩ := Kd.V_slice HO_7.out; subst eo66; obtain ⟨Ao67, co67, eo67⟩ := Kd.R_slice HO401.out; subst eo67) | (go_at_call 18; (with_reducible refine (abacistref04_Same.calls kj41 _ _ t377 _ _ t399 true _ ?side1 ?side2 ?side3 ?side4 A50.out).mono ?_); (case side1 => repeat (first | exact (Kd.V_reads' HO_7.out).2.2 | (with_reducible refine Kd.C_alloc ?_ _) | (with_reducible refine Kd.C_drewN ?_ _) | (with_reducible refine Kd.C_drew ?_))); (case side2 => exact (Kd.V_reads' HO_7.out).2.1); (case side3 => repeat (first | exact (Kd.R_reads' HO401.out).2.2 | (with_reducible refine Kd.C_alloc ?_ _) | (with_reducible refine Kd.C_drewN ?_ _) | (with_reducible refine Kd.C_drew ?_))); (case side4 => exact (Kd.R_reads' HO401.out).2.1); rintro e w' ⟨rfl, ⟨nd, rfl⟩⟩))
                                    go_meet
                                    case rel => exact ⟨_, (true), (by first | rfl | (simp; done) | (simp [*]; done)), H', ⟨by have := HJ4.out; have := HJ12.out; have := HJ38.out; have := HJ41.out; first | omega | exact Nat.le_refl _⟩, ⟨by (with_reducible repeat (first | apply Kd.V_alloc | apply Kd.V_drewN | apply Kd.V_drew)); exact Kd.V_mono HO_0.out (fun _ hk => hk.1.1)⟩, ⟨by (with_reducible repeat (first | apply Kd.V_alloc | apply Kd.V_drewN | apply Kd.V_drew)); exact Kd.V_mono HO_1.out (fun _ hk => hk.1.1)⟩, ⟨by (with_reducible repeat (first | apply Kd.V_alloc | apply Kd.V_drewN | apply Kd.V_drew)); exact Kd.V_mono HO_9.out (fun _ hk => hk.1.1)⟩, ⟨by repeat (first | (with_reducible first | exact HB.out | apply below_alloc | apply pw_below_drewN | apply below_drew1) | exact HB.out)⟩⟩
                                · replace c51 := Bool.eq_false_iff.mpr c51
                                  subst c51
                                  have H1 : (abacistlaw31_NaturalSums.j4 kj41 l0 l1 t381 t384 x13_41 true) = some r := by rw [if_neg (show ¬ (false = true) by decide)] at H; exact H
                                  clear H
                                  have H := H1
                                  clear H1
                                  have H' := Aside0.mk H
                                  clear H
                                  go_wp2_with (first | (go_at_call 33; (with_reducible refine (abacistref31_Add.calls kj41 _ _ l0 _ _ l1 t396 _ ?side1 ?side2 ?side3 ?side4 A48.out).mono ?_); (case side1 => repeat (first | exact (Kd.V_reads' HO_0.out).2.2 | (with_reducible refine Kd.C_alloc ?_ _) | (with_reducible refine Kd.C_drewN ?_ _) | (with_reducible refine Kd.C_drew ?_))); (case side2 => exact (Kd.V_reads' HO_0.out).2.1); (case side3 => repeat (first | exact (Kd.V_reads' HO_1.out).2.2 | (with_reducible refine Kd.C_alloc ?_ _) | (with_reducible refine Kd.C_drewN ?_ _) | (with_reducible refine Kd.C_drew ?_))); (case side4 => exact (Kd.V_reads' HO_1.out).2.1); rintro e w68 ⟨v397, rfl, ho0, hb⟩; have n0_ := Aside0.mk (Kd.V_elder' (by (with_reducible repeat (first | apply Kd.V_alloc | apply Kd.V_drewN | apply Kd.V_drew)); exact HO_0.out) (Kd.R_base ho0) hb); have n1_ := Aside0.mk (Kd.V_elder' (by (with_reducible repeat (first | apply Kd.V_alloc | apply Kd.V_drewN | apply Kd.V_drew)); exact HO_1.out) (Kd.R_base ho0) hb); have n2_ := Aside0.mk (Kd.V_elder' (by (with_reducible repeat (first | apply Kd.V_alloc | apply Kd.V_drewN | apply Kd.V_drew)); exact HO_7.out) (Kd.R_base ho0) hb); have n3_ := Aside0.mk (Kd.V_elder' (by (with_reducible repeat (first | apply Kd.V_alloc | apply Kd.V_drewN | apply Kd.V_drew)); exact HO_9.out) (Kd.R_base ho0) hb); have n4_ := Aside0.mk (Kd.V_elder' (by (with_reducible repeat (first | apply Kd.V_alloc | apply Kd.V_drewN | apply Kd.V_drew)); exact HO_11.out) (Kd.R_base ho0) hb); have n5_ := Aside0.mk (Kd.R_lower (Kd.R_newM (M := fun k_ => (w.heap.size ≤ k_)) ho0 (below_size (by repeat (first | (with_reducible first | exact HB.out | apply below_alloc | apply pw_below_drewN | apply below_drew1) | exact HB.out))) (fun k_ h_ => h_)) (below_size (by repeat (first | (with_reducible first | exact HB.out | apply below_alloc | apply pw_below_drewN | apply below_drew1) | exact HB.out)))); have n6_ := Aside0.mk (below_step (by repeat (first | (with_reducible first | exact HB.out | apply below_alloc | apply pw_below_drewN | apply below_drew1) | exact HB.out)) hb); clear HO_0; clear HO_1; clear HO_7; clear HO_9; clear HO_11; clear HB; have HO_0 := n0_; have HO_1 := n1_; have HO_7 := n2_; have HO_9 := n3_; have HO_11 := n4_; have HO398 := n5_; have HB := n6_; clear n0_ n1_ n2_ n3_ n4_ n5_ n6_; (try clear hb); (try clear hb2); (try clear hk); (try clear hi); (try clear ho0); obtain ⟨Ao69, co69, eo69⟩ := Kd.R_slice HO398.out; subst eo69) | (go_at_call 33; (with_reducible refine (abacistref31_Add.calls kj41 _ _ t396 _ _ l0 t399 _ ?side1 ?side2 ?side3 ?side4 A49.out).mono ?_); (case side1 => repeat (first | exact (Kd.R_reads' HO398.out).2.2 | (with_reducible refine Kd.C_alloc ?_ _) | (with_reducible refine Kd.C_drewN ?_ _) | (with_reducible refine Kd.C_drew ?_))); (case side2 => exact (Kd.R_reads' HO398.out).2.1); (case side3 => repeat (first | exact (Kd.V_reads' HO_0.out).2.2 | (with_reducible refine Kd.C_alloc ?_ _) | (with_reducible refine Kd.C_drewN ?_ _) | (with_reducible refine Kd.C_drew ?_))); (case side4 => exact (Kd.V_reads' HO_0.out).2.1); rintro e w70 ⟨v400, rfl, ho0, hb⟩; have n0_ := Aside0.mk (Kd.V_elder' (by (with_reducible repeat (first | apply Kd.V_alloc | apply Kd.V_drewN | apply Kd.V_drew)); exact HO_0.out) (Kd.R_base ho0) hb); have n1_ := Aside0.mk (Kd.V_elder' (by (with_reducible repeat (first | apply Kd.V_alloc | apply Kd.V_drewN | apply Kd.V_drew)); exact HO_1.out) (Kd.R_base ho0) hb); have n2_ := Aside0.mk (Kd.V_elder' (by (with_reducible repeat (first | apply Kd.V_alloc | apply Kd.V_drewN | apply Kd.V_drew)); exact HO_7.out) (Kd.R_base ho0) hb); have n3_ := Aside0.mk (Kd.V_elder' (by (with_reducible repeat (first | apply Kd.V_alloc | apply Kd.V_drewN | apply Kd.V_drew)); exact HO_9.out) (Kd.R_base ho0) hb); have n4_ := Aside0.mk (Kd.V_elder' (by (with_reducible repeat (first | apply Kd.V_alloc | apply Kd.V_drewN | apply Kd.V_drew)); exact HO_11.out) (Kd.R_base ho0) hb); have n5_ := Aside0.mk (Kd.R_elder' (by (with_reducible repeat (first | apply Kd.R_alloc | apply Kd.R_drewN | apply Kd.R_drew)); exact HO398.out) (Kd.R_base ho0) hb); have n6_ := Aside0.mk (Kd.R_lower (Kd.R_new' (Kd.R_newM (M := fun k_ => (w.heap.size ≤ k_)) ho0 (below_size (by repeat (first | (with_reducible first | exact HB.out | apply below_alloc | apply pw_below_drewN | apply below_drew1) | exact HB.out))) (fun k_ h_ => h_)) (Kd.R_lt (by (with_reducible repeat (first | apply Kd.R_alloc | apply Kd.R_drewN | apply Kd.R_drew)); exact HO398.out))) (below_size (by repeat (first | (with_reducible first | exact HB.out | apply below_alloc | apply pw_below_drewN | apply below_drew1) | exact HB.out)))); have n7_ := Aside0.mk (below_step (by repeat (first | (with_reducible first | exact HB.out | apply below_alloc | apply pw_below_drewN | apply below_drew1) | exact HB.out)) hb); clear HO_0; clear HO_1; clear HO_7; clear HO_9; clear HO_11; clear HO398; clear HB; have HO_0 := n0_; have HO_1 := n1_; have HO_7 := n2_; have HO_9 := n3_; have HO_11 := n4_; have HO398 := n5_; have HO401 := n6_; have HB := n7_; clear n0_ n1_ n2_ n3_ n4_ n5_ n6_ n7_; (try clear hb); (try clear hb2); (try clear hk); (try clear hi); (try clear ho0); obtain ⟨Ao71, co71, eo71⟩ := Kd.V_slice HO_7.out; subst eo71; obtain ⟨Ao72, co72, eo72⟩ := Kd.R_slice HO401.out; subst eo72) | (go_at_call 18; (with_reducible refine (abacistref04_Same.calls kj41 _ _ t377 _ _ t399 false _ ?side1 ?side2 ?side3 ?side4 A50.out).mono ?_); (case side1 => repeat (first | exact (Kd.V_reads' HO_7.out).2.2 | (with_reducible refine Kd.C_alloc ?_ _) | (with_reducible refine Kd.C_drewN ?_ _) | (with_reducible refine Kd.C_drew ?_))); (case side2 => exact (Kd.V_reads' HO_7.out).2.1); (case side3 => repeat (first | exact (Kd.R_reads' HO401.out).2.2 | (with_reducible refine Kd.C_alloc ?_ _) | (with_reducible refine Kd.C_drewN ?_ _) | (with_reducible refine Kd.C_drew ?_))); (case side4 => exact (Kd.R_reads' HO401.out).2.1); rintro e w' ⟨rfl, ⟨nd, rfl⟩⟩))
                                  go_meet
                                  case rel => exact ⟨_, (true), (by first | rfl | (simp; done) | (simp [*]; done)), H', ⟨by have := HJ4.out; have := HJ12.out; have := HJ38.out; have := HJ41.out; first | omega | exact Nat.le_refl _⟩, ⟨by (with_reducible repeat (first | apply Kd.V_alloc | apply Kd.V_drewN | apply Kd.V_drew)); exact Kd.V_mono HO_0.out (fun _ hk => hk.1.1)⟩, ⟨by (with_reducible repeat (first | apply Kd.V_alloc | apply Kd.V_drewN | apply Kd.V_drew)); exact Kd.V_mono HO_1.out (fun _ hk => hk.1.1)⟩, ⟨by (with_reducible repeat (first | apply Kd.V_alloc | apply Kd.V_drewN | apply Kd.V_drew)); exact Kd.V_mono HO_9.out (fun _ hk => hk.1.1)⟩, ⟨by repeat (first | (with_reducible first | exact HB.out | apply below_alloc | apply pw_below_drewN | apply below_drew1) | exact HB.out)⟩⟩
                              · rw [if_neg c47] at H
                                have c47b0 : (t380 == 0) = false := beq_eq_false_iff_ne.mpr c47
                                have c47b1 : (t380 != 0) = true := bne_iff_ne.mpr c47
                                have H' := Aside0.mk H
                                clear H
                                go_wp2
                                go_meet
                                case rel => exact ⟨_, (true), (by first | rfl | (simp; done) | (simp [*]; done)), H', ⟨by have := HJ4.out; have := HJ12.out; have := HJ38.out; have := HJ41.out; first | omega | exact Nat.le_refl _⟩, ⟨by (with_reducible repeat (first | apply Kd.V_alloc | apply Kd.V_drewN | apply Kd.V_drew)); exact HO_0.out⟩, ⟨by (with_reducible repeat (first | apply Kd.V_alloc | apply Kd.V_drewN | apply Kd.V_drew)); exact HO_1.out⟩, ⟨by (with_reducible repeat (first | apply Kd.V_alloc | apply Kd.V_drewN | apply Kd.V_drew)); exact HO_9.out⟩, ⟨by repeat (first | (with_reducible first | exact HB.out | apply below_alloc | apply pw_below_drewN | apply below_drew1) | exact HB.out)⟩⟩
                            · rw [if_neg c46] at H
                              have c46b0 : (t372 == x13_41) = false := beq_eq_false_iff_ne.mpr c46
                              have c46b1 : (t372 != x13_41) = true := bne_iff_ne.mpr c46
                              have H' := Aside0.mk H
                              clear H
                              go_wp2
                              go_meet
                              case rel => exact ⟨_, (true), (by first | rfl | (simp; done) | (simp [*]; done)), H', ⟨by have := HJ4.out; have := HJ12.out; have := HJ38.out; have := HJ41.out; first | omega | exact Nat.le_refl _⟩, ⟨by (with_reducible repeat (first | apply Kd.V_alloc | apply Kd.V_drewN | apply Kd.V_drew)); exact HO_0.out⟩, ⟨by (with_reducible repeat (first | apply Kd.V_alloc | apply Kd.V_drewN | apply Kd.V_drew)); exact HO_1.out⟩, ⟨by (with_reducible repeat (first | apply Kd.V_alloc | apply Kd.V_drewN | apply Kd.V_drew)); exact HO_9.out⟩, ⟨by repeat (first | (with_reducible first | exact HB.out | apply below_alloc | apply pw_below_drewN | apply below_drew1) | exact HB.out)⟩⟩
                          · rw [if_neg c45] at H
                            have c45b0 : (t373 == 0) = false := beq_eq_false_iff_ne.mpr c45
                            have c45b1 : (t373 != 0) = true := bne_iff_ne.mpr c45
                            (first | rw [c45b0] | (simp only [i64_w, i32_w]; rw [c45b0]) | skip)
                            have H' := Aside0.mk H
                            clear H
                            go_wp2
                            go_meet
                            case rel => exact ⟨_, (true), (by first | rfl | (simp; done) | (simp [*]; done)), H', ⟨by have := HJ4.out; have := HJ12.out; have := HJ38.out; have := HJ41.out; first | omega | exact Nat.le_refl _⟩, ⟨by (with_reducible repeat (first | apply Kd.V_alloc | apply Kd.V_drewN | apply Kd.V_drew)); exact HO_0.out⟩, ⟨by (with_reducible repeat (first | apply Kd.V_alloc | apply Kd.V_drewN | apply Kd.V_drew)); exact HO_1.out⟩, ⟨by (with_reducible repeat (first | apply Kd.V_alloc | apply Kd.V_drewN | apply Kd.V_drew)); exact HO_9.out⟩, ⟨by repeat (first | (with_reducible first | exact HB.out | apply below_alloc | apply pw_below_drewN | apply below_drew1) | exact HB.out)⟩⟩
                        case rest =>
                          clear HC44
                          try clear c1
                          try clear c2
                          try clear p2
                          try clear c3
                          try clear c4
                          try clear c5
                          try clear c7
                          try clear c7b0
                          try clear c7b1
                          try clear c8
                          try clear c9
                          try clear c24
                          try clear c25
                          try clear c26
                          try clear c27
                          try clear c28
                          try clear c28b0
                          try clear c28b1
                          try clear c29
                          try clear c29b0
                          try clear c29b1
                          try clear c30
                          try clear c30b0
                          try clear c30b1
                          try clear c31
                          try clear c31b0
                          try clear c31b1
                          try clear c32
                          try clear c32b0
                          try clear c32b1
                          try clear c33
                          try clear c33b0
                          try clear c33b1
                          try clear c33b2
                          try clear c34
                          try clear c34b0
                          try clear c34b1
                          try clear c34b2
                          try clear c36
                          try clear c37
                          try clear c40
                          try clear c43
                          try clear c45
                          try clear c45b0
                          try clear c45b1
                          try clear c46
                          try clear c46b0
                          try clear c46b1
                          try clear c47
                          try clear c47b0
                          try clear c47b1
                          try clear c51
                          try clear c52
                          try clear c52b0
                          try clear c52b1
                          try clear p2
                          obtain ⟨kq, x130_43, rfl, HA, HJ43, HO_0, HO_1, HO_9, HB⟩ := hcut
                          cases kq with
                          | zero => exact absurd HA.out (by simp [abacistlaw31_NaturalSums.j4])
                          | succ kj43 =>
                            have H := HA.out
                            clear HA
                            simp only [abacistlaw31_NaturalSums.j4] at H
                            by_cases c73 : x130_43 = true
                            · subst c73
                              have H1 : (some false) = some r := by rw [if_pos rfl] at H; exact H
                              clear H
                              have H := H1
                              clear H1
                              obtain rfl := Option.some.inj H
                              exact absurd hr_.out (by decide)
                            · replace c73 := Bool.eq_false_iff.mpr c73
                              subst c73
                              have H1 : (if x13_41 < 0 then (if t384 = 1 then (some ((t381.length : Int) == 0)) else (some false)) else (if t384 = 0 then ((abacistref31_Good.f kj43 t381).bind fun t407 => (if t407 = true then ((abacistref31_Add.f kj43 t381 l1).bind fun t408 => ((abacistref04_Same.f kj43 t408 l0).bind fun t411 => (some t411))) else (some false))) else (some false))) = some r := by rw [if_neg (show ¬ (false = true) by decide)] at H; exact H
                              clear H
                              have H := H1
                              clear H1
                              by_cases c74 : x13_41 < 0
                              · rw [if_pos c74] at H
                                have c74b0 : decide (x13_41 < 0) = true := decide_eq_true c74
                                clear c74
                                by_cases c75 : t384 = 1
                                · rw [if_pos c75] at H
                                  have c75b0 : (t384 == 1) = true := beq_iff_eq.mpr c75
                                  have c75b1 : (t384 != 1) = false := bne_eq_false_iff_eq.mpr c75
                                  clear c75
                                  obtain rfl := Option.some.inj H
                                  obtain ⟨Ao76, co76, eo76⟩ := Kd.V_slice HO_9.out
                                  subst eo76
                                  go_wp2
                                  go_ret
                                  exact ⟨by first | rfl | (simp [errW_none, errW_some] <;> rfl) | (simp [*, errW_none, errW_some] <;> rfl), by repeat (first | (with_reducible first | exact HB.out | apply below_alloc | apply pw_below_drewN | apply below_drew1) | exact HB.out)⟩
                                · rw [if_neg c75] at H
                                  have c75b0 : (t384 == 1) = false := beq_eq_false_iff_ne.mpr c75
                                  have c75b1 : (t384 != 1) = true := bne_iff_ne.mpr c75
                                  obtain rfl := Option.some.inj H
                                  exact absurd hr_.out (by decide)
                              · rw [if_neg c74] at H
                                have c74b0 : decide (x13_41 < 0) = false := decide_eq_false c74
                                clear c74
                                by_cases c77 : t384 = 0
                                · rw [if_pos c77] at H
                                  have c77b0 : (t384 == 0) = true := beq_iff_eq.mpr c77
                                  have c77b1 : (t384 != 0) = false := bne_eq_false_iff_eq.mpr c77
                                  clear c77
                                  replace H := Option.bind_eq_some_iff.mp H
                                  obtain ⟨t407, A780, H⟩ := H
                                  replace H : (if t407 = true then ((abacistref31_Add.f kj43 t381 l1).bind fun t408 => ((abacistref04_Same.f kj43 t408 l0).bind fun t411 => (some t411))) else (some false)) = some r := H
                                  have A78 := Aside0.mk A780
                                  clear A780
                                  by_cases c79 : t407 = true
                                  · subst c79
                                    have H1 : ((abacistref31_Add.f kj43 t381 l1).bind fun t408 => ((abacistref04_Same.f kj43 t408 l0).bind fun t411 => (some t411))) = some r := by rw [if_pos rfl] at H; exact H
                                    clear H
                                    have H := H1
                                    clear H1
                                    replace H := Option.bind_eq_some_iff.mp H
                                    obtain ⟨t408, A800, H⟩ := H
                                    replace H : ((abacistref04_Same.f kj43 t408 l0).bind fun t411 => (some t411)) = some r := H
                                    have A80 := Aside0.mk A800
                                    clear A800
                                    replace H := Option.bind_eq_some_iff.mp H
                                    obtain ⟨t411, A810, H⟩ := H
                                    replace H : (some t411) = some r := H
                                    have A81 := Aside0.mk A810
                                    clear A810
                                    obtain rfl := Option.some.inj H
                                    obtain ⟨Ao82, co82, eo82⟩ := Kd.V_slice HO_9.out
                                    subst eo82
                                    go_wp2_with (first | (go_at_call 25; (with_reducible refine (abacistref31_Good.calls kj43 _ _ t381 true _ ?side1 ?side2 A78.out).mono ?_); (case side1 => repeat (first | exact (Kd.V_reads' HO_9.out).2.2 | (with_reducible refine Kd.C_alloc ?_ _) | (with_reducible refine Kd.C_drewN ?_ _) | (with_reducible refine Kd.C_drew ?_))); (case side2 => exact (Kd.V_reads' HO_9.out).2.1); rintro e w' ⟨rfl, ⟨nd, rfl⟩⟩) | (go_at_call 33; (with_reducible refine (abacistref31_Add.calls kj43 _ _ t381 _ _ l1 t408 _ ?side1 ?side2 ?side3 ?side4 A80.out).mono ?_); (case side1 => repeat (first | exact (Kd.V_reads' HO_9.out).2.2 | (with_reducible refine Kd.C_alloc ?_ _) | (with_reducible refine Kd.C_drewN ?_ _) | (with_reducible refine Kd.C_drew ?_))); (case side2 => exact (Kd.V_reads' HO_9.out).2.1); (case side3 => repeat (first | exact (Kd.V_reads' HO_1.out).2.2 | (with_reducible refine Kd.C_alloc ?_ _) | (with_reducible refine Kd.C_drewN ?_ _) | (with_reducible refine Kd.C_drew ?_))); (case side4 => exact (Kd.V_reads' HO_1.out).2.1); rintro e w83 ⟨v409, rfl, ho0, hb⟩; have n0_ := Aside0.mk (Kd.V_elder' (by (with_reducible repeat (first | apply Kd.V_alloc | apply Kd.V_drewN | apply Kd.V_drew)); exact HO_0.out) (Kd.R_base ho0) hb); have n1_ := Aside0.mk (Kd.V_elder' (by (with_reducible repeat (first | apply Kd.V_alloc | apply Kd.V_drewN | apply Kd.V_drew)); exact HO_1.out) (Kd.R_base ho0) hb); have n2_ := Aside0.mk (Kd.V_elder' (by (with_reducible repeat (first | apply Kd.V_alloc | apply Kd.V_drewN | apply Kd.V_drew)); exact HO_9.out) (Kd.R_base ho0) hb); have n3_ := Aside0.mk (Kd.R_lower (Kd.R_newM (M := fun k_ => (w.heap.size ≤ k_)) ho0 (below_size (by repeat (first | (with_reducible first | exact HB.out | apply below_alloc | apply pw_below_drewN | apply below_drew1) | exact HB.out))) (fun k_ h_ => h_)) (below_size (by repeat (first | (with_reducible first | exact HB.out | apply below_alloc | apply pw_below_drewN | apply below_drew1) | exact HB.out)))); have n4_ := Aside0.mk (below_step (by repeat (first | (with_reducible first | exact HB.out | apply below_alloc | apply pw_below_drewN | apply below_drew1) | exact HB.out)) hb); clear HO_0; clear HO_1; clear HO_9; clear HB; have HO_0 := n0_; have HO_1 := n1_; have HO_9 := n2_; have HO410 := n3_; have HB := n4_; clear n0_ n1_ n2_ n3_ n4_; (try clear hb); (try clear hb2); (try clear hk); (try clear hi); (try clear ho0); obtain ⟨Ao84, co84, eo84⟩ := Kd.R_slice HO410.out; subst eo84) | (go_at_call 18; (with_reducible refine (abacistref04_Same.calls kj43 _ _ t408 _ _ l0 t411 _ ?side1 ?side2 ?side3 ?side4 A81.out).mono ?_); (case side1 => repeat (first | exact (Kd.R_reads' HO410.out).2.2 | (with_reducible refine Kd.C_alloc ?_ _) | (with_reducible refine Kd.C_drewN ?_ _) | (with_reducible refine Kd.C_drew ?_))); (case side2 => exact (Kd.R_reads' HO410.out).2.1); (case side3 => repeat (first | exact (Kd.V_reads' HO_0.out).2.2 | (with_reducible refine Kd.C_alloc ?_ _) | (with_reducible refine Kd.C_drewN ?_ _) | (with_reducible refine Kd.C_drew ?_))); (case side4 => exact (Kd.V_reads' HO_0.out).2.1); rintro e w' ⟨rfl, ⟨nd, rfl⟩⟩))
                                    go_ret
                                    exact ⟨by first | rfl | (simp [errW_none, errW_some] <;> rfl) | (simp [*, errW_none, errW_some] <;> rfl), by repeat (first | (with_reducible first | exact HB.out | apply below_alloc | apply pw_below_drewN | apply below_drew1) | exact HB.out)⟩
                                  · replace c79 := Bool.eq_false_iff.mpr c79
                                    subst c79
                                    have H1 : (some false) = some r := by rw [if_neg (show ¬ (false = true) by decide)] at H; exact H
                                    clear H
                                    have H := H1
                                    clear H1
                                    obtain rfl := Option.some.inj H
                                    exact absurd hr_.out (by decide)
                                · rw [if_neg c77] at H
                                  have c77b0 : (t384 == 0) = false := beq_eq_false_iff_ne.mpr c77
                                  have c77b1 : (t384 != 0) = true := bne_iff_ne.mpr c77
                                  obtain rfl := Option.some.inj H
                                  exact absurd hr_.out (by decide)
  · replace c4 := Bool.eq_false_iff.mpr c4
    subst c4
    have H1 : (some false) = some r := by rw [if_neg (show ¬ (false = true) by decide)] at H; exact H
    clear H
    have H := H1
    clear H1
    obtain rfl := Option.some.inj H
    exact absurd hr_.out (by decide)

/-- THE ONE PURE STATEMENT of abacistlaw31_NaturalSums: yours. -/
theorem V_of_reads {k : IntKind} {w : World} {A : Option Addr} {c e b : Nat} {l : List Int} (h : ReadsInt w k A l.length l) (hc : l.length ≤ c) : Kd.V (Kd.int k) e w b (fun _ => True) (.slice A l.length c) l := by
  refine Kd.V_mk hc (fun W' hW => Kd.C_of_reads (d := (0 : Int)) (h1 := fun _ => rfl) ⟨h.1, h.2.1, fun hn => ?_⟩)
  obtain ⟨ad, e, hcell⟩ := h.2.2 hn
  refine ⟨ad, e, fun j hj => ?_⟩
  have h1 := hcell j hj
  have h2 := hW (ad.add j).block trivial (World.block_lt_of_cell? _ _ h1)
  unfold World.cell? at h1 ⊢
  rw [h2]; exact h1

def abacistlaw31_NaturalSums.Pure : Prop := ∀ (l0 : List Int) (l1 : List Int), l0.length ≤ maxLen → l0.length * 8 ≤ 140737488351232 → (∀ x ∈ l0, (Lit.int .u64 x).wf = true) → l1.length ≤ maxLen → l1.length * 8 ≤ 140737488351232 → (∀ x ∈ l1, (Lit.int .u64 x).wf = true) → ∃ k, abacistlaw31_NaturalSums.f k l0 l1 = some true
theorem abacistlaw31_NaturalSums.walk (P : abacistlaw31_NaturalSums.Pure) (a0 : Option Addr) (len0 cap0 : Nat) (z0 : List Int) (a1 : Option Addr) (len1 cap1 : Nat) (z1 : List Int) (w : World) (w0 : (a0 = none ∧ len0 = 0 ∧ cap0 = 0 ∧ z0 = []) ∨ ∃ x, a0 = some x ∧ len0 ≤ cap0 ∧ cap0 ≤ maxLen ∧ z0.length = cap0 ∧ (∀ i, i < z0.length → w.cell? (x.add i) = some (.int .u64 (z0.getD i 0))) ∧ ∀ n ∈ z0, (Lit.int .u64 n).wf = true) (y0 : len0 * 8 ≤ 140737488351232) (w1 : (a1 = none ∧ len1 = 0 ∧ cap1 = 0 ∧ z1 = []) ∨ ∃ x, a1 = some x ∧ len1 ≤ cap1 ∧ cap1 ≤ maxLen ∧ z1.length = cap1 ∧ (∀ i, i < z1.length → w.cell? (x.add i) = some (.int .u64 (z1.getD i 0))) ∧ ∀ n ∈ z1, (Lit.int .u64 n).wf = true) (y1 : len1 * 8 ≤ 140737488351232) :
    Calls Try.prog 9 #[.slice a0 len0 cap0, .slice a1 len1 cap1] w fun e w' => e = .returned (.bool true) ∧ Below w.heap.size w w' := by
  obtain ⟨l0, rfl, hr0, hm0, hw0, hc0⟩ := ReadsInt.ofRowC w0
  obtain ⟨l1, rfl, hr1, hm1, hw1, hc1⟩ := ReadsInt.ofRowC w1
  obtain ⟨k, h⟩ := P l0 l1 hm0 y0 hw0 hm1 y1 hw1
  refine (abacistlaw31_NaturalSums.calls k (fun _ => True) _ _ l0 (fun _ => True) _ _ l1 true ⟨rfl⟩ w (V_of_reads hr0 hc0) (V_of_reads hr1 hc1) h).mono ?_
  rintro e w' ⟨rfl, hd⟩
  exact ⟨rfl, hd⟩

end Go.Proofs.Ytaiahgnkgbfcfaa.PNaturalSums
