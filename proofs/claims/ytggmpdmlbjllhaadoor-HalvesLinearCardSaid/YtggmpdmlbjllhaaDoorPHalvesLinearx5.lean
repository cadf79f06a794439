-- Written for this claim by wip/gen/mk.sh, this session's own driver over the kit's print
import Derived.Test.YtggmpdmlbjllhaaDoorPHalvesLinearx0
import Derived.Test.YtggmpdmlbjllhaaDoorPHalvesLinearx2
import Derived.Test.YtggmpdmlbjllhaaDoorPHalvesLinearx4
namespace Go.Proofs.YtggmpdmlbjllhaaDoor.PHalvesLinear
open Go.RowKit Go.Proofs.YtggmpdmlbjllhaaDoorW.PrintWords Go.Proofs.YtggmpdmlbjllhaaDoorW.PrintLast Go.Proofs.YtggmpdmlbjllhaaDoorW.PrintMore
attribute [local go_sem] max2_int min2_int max_two min_two max_three min_three max_four min_four   -- for this text's walks alone
set_option linter.unusedVariables false
set_option linter.unusedSimpArgs false

/-! ### abacistlaw09_HalvesLinear: function 4 -/
mutual
def abacistlaw09_HalvesLinear.j0 : Nat → List Int → List Int → Int → Int → Int → Bool → Option (Bool)
  | 0, _, _, _, _, _, _ => none
  | k + 1, x0, x1, x2, x3, x9, x50 => if x50 = true then (some true) else (abacistlaw09_HalvesLinear.l0 k x0 x1 x2 x3 x9 ([] : List Int) ([] : List Int) 0)
def abacistlaw09_HalvesLinear.l0 : Nat → List Int → List Int → Int → Int → Int → List Int → List Int → Int → Option (Bool)
  | 0, _, _, _, _, _, _, _, _ => none
  | k + 1, x0, x1, x2, x3, x9, x10, x11, x12 => if x12 < (x0.length : Int) then (if 0 ≤ x12 then (if x12 < (x1.length : Int) then ((abacistref02_Mul.f k (rd x1 x12) x2).bind fun t206 => ((abacistref02_Add.f (rd x0 x12) t206).bind fun t207 => (if x10.length < 17592186044416 then (if (x0.length : Int) = 0 then (none) else (if 0 ≤ (Int.tmod (wrap64 ((wrap64 (x12 + (x0.length : Int))) - 1)) (x0.length : Int)) then (if (Int.tmod (wrap64 ((wrap64 (x12 + (x0.length : Int))) - 1)) (x0.length : Int)) < (x0.length : Int) then (if x11.length < 17592186044416 then (abacistlaw09_HalvesLinear.l0 k x0 x1 x2 x3 x9 (x10 ++ [t207]) (x11 ++ [rd x0 (Int.tmod (wrap64 ((wrap64 (x12 + (x0.length : Int))) - 1)) (x0.length : Int))]) (wrap64 (x12 + 1))) else (none)) else (none)) else (none))) else (none)))) else (none)) else (none)) else ((kern2_Transform.f k x0 x3).bind fun bt215 => ((kern2_Transform.f k x1 x3).bind fun bt219 => ((kern2_Transform.f k x10 x3).bind fun bt223 => ((kern2_Transform.f k x11 x3).bind fun bt227 => (if bt215.2 = 0 then (if bt219.2 = 0 then (if bt223.2 = 0 then (if bt227.2 = 0 then (if (bt215.1.length : Int) = (x0.length : Int) then (if (bt219.1.length : Int) = (x0.length : Int) then (if (bt223.1.length : Int) = (x0.length : Int) then (abacistlaw09_HalvesLinear.j2 k x0 x2 x3 x9 bt215.1 bt219.1 bt223.1 bt227.1 ((bt227.1.length : Int) != (x0.length : Int))) else (abacistlaw09_HalvesLinear.j2 k x0 x2 x3 x9 bt215.1 bt219.1 bt223.1 bt227.1 true)) else (abacistlaw09_HalvesLinear.j2 k x0 x2 x3 x9 bt215.1 bt219.1 bt223.1 bt227.1 true)) else (abacistlaw09_HalvesLinear.j2 k x0 x2 x3 x9 bt215.1 bt219.1 bt223.1 bt227.1 true)) else (abacistlaw09_HalvesLinear.j2 k x0 x2 x3 x9 bt215.1 bt219.1 bt223.1 bt227.1 true)) else (abacistlaw09_HalvesLinear.j2 k x0 x2 x3 x9 bt215.1 bt219.1 bt223.1 bt227.1 true)) else (abacistlaw09_HalvesLinear.j2 k x0 x2 x3 x9 bt215.1 bt219.1 bt223.1 bt227.1 true)) else (abacistlaw09_HalvesLinear.j2 k x0 x2 x3 x9 bt215.1 bt219.1 bt223.1 bt227.1 true))))))
def abacistlaw09_HalvesLinear.j2 : Nat → List Int → Int → Int → Int → List Int → List Int → List Int → List Int → Bool → Option (Bool)
  | 0, _, _, _, _, _, _, _, _, _ => none
  | k + 1, x0, x2, x3, x9, x13, x15, x17, x19, x150 => if x150 = true then (some false) else ((abacistref08_Root.f k x9 x3).bind fun t231 => (abacistlaw09_HalvesLinear.l1 k x0 x2 x13 x15 x17 x19 t231 1 0))
def abacistlaw09_HalvesLinear.l1 : Nat → List Int → Int → List Int → List Int → List Int → List Int → Int → Int → Int → Option (Bool)
  | 0, _, _, _, _, _, _, _, _, _ => none
  | k + 1, x0, x2, x13, x15, x17, x19, x21, x22, x23 => if x23 < (x0.length : Int) then (if 0 ≤ x23 then (if x23 < (x17.length : Int) then (if x23 < (x13.length : Int) then (if x23 < (x15.length : Int) then ((abacistref02_Mul.f k (rd x15 x23) x2).bind fun t235 => ((abacistref02_Add.f (rd x13 x23) t235).bind fun t236 => (if (rd x17 x23) = t236 then (if x23 < (x19.length : Int) then ((abacistref02_Mul.f k (rd x13 x23) x22).bind fun t239 => (if (rd x19 x23) = t239 then ((abacistref02_Mul.f k x22 x21).bind fun t240 => (abacistlaw09_HalvesLinear.l1 k x0 x2 x13 x15 x17 x19 x21 t240 (wrap64 (x23 + 1)))) else (some false))) else (none)) else (some false)))) else (none)) else (none)) else (none)) else (none)) else (some true)
end
def abacistlaw09_HalvesLinear.f (k : Nat) (l0 : List Int) (l1 : List Int) (a2 : Int) (a3 : Int) : Option (Bool) := (abacistlaw09_awake.f k).bind fun t202 => (if t202 = true then ((abacistref03_Fits.f k (l0.length : Int)).bind fun t203 => (if (l0.length : Int) > 64 then (abacistlaw09_HalvesLinear.j0 k l0 l1 a2 a3 t203 true) else (if (l1.length : Int) = (l0.length : Int) then (if t203 < 0 then (abacistlaw09_HalvesLinear.j0 k l0 l1 a2 a3 t203 true) else (if a3 = 0 then (abacistlaw09_HalvesLinear.j0 k l0 l1 a2 a3 t203 false) else (abacistlaw09_HalvesLinear.j0 k l0 l1 a2 a3 t203 (a3 != 1)))) else (abacistlaw09_HalvesLinear.j0 k l0 l1 a2 a3 t203 true)))) else (some false))
theorem abacistlaw09_HalvesLinear.mono_l : ∀ k, (∀ y0 y1 y2 y3 y4 y5, LeO (abacistlaw09_HalvesLinear.j0 k y0 y1 y2 y3 y4 y5) (abacistlaw09_HalvesLinear.j0 (k + 1) y0 y1 y2 y3 y4 y5)) ∧ (∀ y0 y1 y2 y3 y4 y5 y6 y7, LeO (abacistlaw09_HalvesLinear.l0 k y0 y1 y2 y3 y4 y5 y6 y7) (abacistlaw09_HalvesLinear.l0 (k + 1) y0 y1 y2 y3 y4 y5 y6 y7)) ∧ (∀ y0 y1 y2 y3 y4 y5 y6 y7 y8, LeO (abacistlaw09_HalvesLinear.j2 k y0 y1 y2 y3 y4 y5 y6 y7 y8) (abacistlaw09_HalvesLinear.j2 (k + 1) y0 y1 y2 y3 y4 y5 y6 y7 y8)) ∧ (∀ y0 y1 y2 y3 y4 y5 y6 y7 y8, LeO (abacistlaw09_HalvesLinear.l1 k y0 y1 y2 y3 y4 y5 y6 y7 y8) (abacistlaw09_HalvesLinear.l1 (k + 1) y0 y1 y2 y3 y4 y5 y6 y7 y8))
  | 0 => ⟨fun _ _ _ _ _ _ r h => by simp [abacistlaw09_HalvesLinear.j0] at h, fun _ _ _ _ _ _ _ _ r h => by simp [abacistlaw09_HalvesLinear.l0] at h, fun _ _ _ _ _ _ _ _ _ r h => by simp [abacistlaw09_HalvesLinear.j2] at h, fun _ _ _ _ _ _ _ _ _ r h => by simp [abacistlaw09_HalvesLinear.l1] at h⟩
  | k + 1 => by
    obtain ⟨ih0, ih1, ih2, ih3⟩ := abacistlaw09_HalvesLinear.mono_l k
    refine ⟨?_, ?_, ?_, ?_⟩
    · intro y0 y1 y2 y3 y4 y5
      unfold abacistlaw09_HalvesLinear.j0
      repeat' first
      | (with_reducible exact ih0 _ _ _ _ _ _)
      | (with_reducible exact ih1 _ _ _ _ _ _ _ _)
      | (with_reducible exact ih2 _ _ _ _ _ _ _ _ _)
      | (with_reducible exact ih3 _ _ _ _ _ _ _ _ _)
      | (with_reducible exact abacistlaw09_awake.mono _)
      | (with_reducible exact abacistref02_Mul.mono _ _ _)
      | (with_reducible exact abacistref03_Fits.mono _ _)
      | (with_reducible exact abacistref08_Root.mono _ _ _)
      | (with_reducible exact kern2_Transform.mono _ _ _)
      | (with_reducible exact LeO.refl _)
      | (with_reducible exact LeO.none _)
      | (with_reducible refine LeO.ite ?_ ?_)
      | (with_reducible refine LeO.bind ?_ (fun _ => ?_))
      | exact ih0 _ _ _ _ _ _
      | exact ih1 _ _ _ _ _ _ _ _
      | exact ih2 _ _ _ _ _ _ _ _ _
      | exact ih3 _ _ _ _ _ _ _ _ _
      | exact abacistlaw09_awake.mono _
      | exact abacistref02_Mul.mono _ _ _
      | exact abacistref03_Fits.mono _ _
      | exact abacistref08_Root.mono _ _ _
      | exact kern2_Transform.mono _ _ _
      | exact LeO.none _
      | refine LeO.ite ?_ ?_
      | refine LeO.bind ?_ (fun _ => ?_)
    · intro y0 y1 y2 y3 y4 y5 y6 y7
      unfold abacistlaw09_HalvesLinear.l0
      repeat' first
      | (with_reducible exact ih0 _ _ _ _ _ _)
      | (with_reducible exact ih1 _ _ _ _ _ _ _ _)
      | (with_reducible exact ih2 _ _ _ _ _ _ _ _ _)
      | (with_reducible exact ih3 _ _ _ _ _ _ _ _ _)
      | (with_reducible exact abacistlaw09_awake.mono _)
      | (with_reducible exact abacistref02_Mul.mono _ _ _)
      | (with_reducible exact abacistref03_Fits.mono _ _)
      | (with_reducible exact abacistref08_Root.mono _ _ _)
      | (with_reducible exact kern2_Transform.mono _ _ _)
      | (with_reducible exact LeO.refl _)
      | (with_reducible exact LeO.none _)
      | (with_reducible refine LeO.ite ?_ ?_)
      | (with_reducible refine LeO.bind ?_ (fun _ => ?_))
      | exact ih0 _ _ _ _ _ _
      | exact ih1 _ _ _ _ _ _ _ _
      | exact ih2 _ _ _ _ _ _ _ _ _
      | exact ih3 _ _ _ _ _ _ _ _ _
      | exact abacistlaw09_awake.mono _
      | exact abacistref02_Mul.mono _ _ _
      | exact abacistref03_Fits.mono _ _
      | exact abacistref08_Root.mono _ _ _
      | exact kern2_Transform.mono _ _ _
      | exact LeO.none _
      | refine LeO.ite ?_ ?_
      | refine LeO.bind ?_ (fun _ => ?_)
    · intro y0 y1 y2 y3 y4 y5 y6 y7 y8
      unfold abacistlaw09_HalvesLinear.j2
      repeat' first
      | (with_reducible exact ih0 _ _ _ _ _ _)
      | (with_reducible exact ih1 _ _ _ _ _ _ _ _)
      | (with_reducible exact ih2 _ _ _ _ _ _ _ _ _)
      | (with_reducible exact ih3 _ _ _ _ _ _ _ _ _)
      | (with_reducible exact abacistlaw09_awake.mono _)
      | (with_reducible exact abacistref02_Mul.mono _ _ _)
      | (with_reducible exact abacistref03_Fits.mono _ _)
      | (with_reducible exact abacistref08_Root.mono _ _ _)
      | (with_reducible exact kern2_Transform.mono _ _ _)
      | (with_reducible exact LeO.refl _)
      | (with_reducible exact LeO.none _)
      | (with_reducible refine LeO.ite ?_ ?_)
      | (with_reducible refine LeO.bind ?_ (fun _ => ?_))
      | exact ih0 _ _ _ _ _ _
      | exact ih1 _ _ _ _ _ _ _ _
      | exact ih2 _ _ _ _ _ _ _ _ _
      | exact ih3 _ _ _ _ _ _ _ _ _
      | exact abacistlaw09_awake.mono _
      | exact abacistref02_Mul.mono _ _ _
      | exact abacistref03_Fits.mono _ _
      | exact abacistref08_Root.mono _ _ _
      | exact kern2_Transform.mono _ _ _
      | exact LeO.none _
      | refine LeO.ite ?_ ?_
      | refine LeO.bind ?_ (fun _ => ?_)
    · intro y0 y1 y2 y3 y4 y5 y6 y7 y8
      unfold abacistlaw09_HalvesLinear.l1
      repeat' first
      | (with_reducible exact ih0 _ _ _ _ _ _)
      | (with_reducible exact ih1 _ _ _ _ _ _ _ _)
      | (with_reducible exact ih2 _ _ _ _ _ _ _ _ _)
      | (with_reducible exact ih3 _ _ _ _ _ _ _ _ _)
      | (with_reducible exact abacistlaw09_awake.mono _)
      | (with_reducible exact abacistref02_Mul.mono _ _ _)
      | (with_reducible exact abacistref03_Fits.mono _ _)
      | (with_reducible exact abacistref08_Root.mono _ _ _)
      | (with_reducible exact kern2_Transform.mono _ _ _)
      | (with_reducible exact LeO.refl _)
      | (with_reducible exact LeO.none _)
      | (with_reducible refine LeO.ite ?_ ?_)
      | (with_reducible refine LeO.bind ?_ (fun _ => ?_))
      | exact ih0 _ _ _ _ _ _
      | exact ih1 _ _ _ _ _ _ _ _
      | exact ih2 _ _ _ _ _ _ _ _ _
      | exact ih3 _ _ _ _ _ _ _ _ _
      | exact abacistlaw09_awake.mono _
      | exact abacistref02_Mul.mono _ _ _
      | exact abacistref03_Fits.mono _ _
      | exact abacistref08_Root.mono _ _ _
      | exact kern2_Transform.mono _ _ _
      | exact LeO.none _
      | refine LeO.ite ?_ ?_
      | refine LeO.bind ?_ (fun _ => ?_)
theorem abacistlaw09_HalvesLinear.mono : ∀ a0 a1 a2 a3 k, LeO (abacistlaw09_HalvesLinear.f k a0 a1 a2 a3) (abacistlaw09_HalvesLinear.f (k + 1) a0 a1 a2 a3) := by
  intro a0 a1 a2 a3 k
  obtain ⟨ih0, ih1, ih2, ih3⟩ := abacistlaw09_HalvesLinear.mono_l k
  unfold abacistlaw09_HalvesLinear.f
  repeat' first
      | (with_reducible exact ih0 _ _ _ _ _ _)
      | (with_reducible exact ih1 _ _ _ _ _ _ _ _)
      | (with_reducible exact ih2 _ _ _ _ _ _ _ _ _)
      | (with_reducible exact ih3 _ _ _ _ _ _ _ _ _)
      | (with_reducible exact abacistlaw09_awake.mono _)
      | (with_reducible exact abacistref02_Mul.mono _ _ _)
      | (with_reducible exact abacistref03_Fits.mono _ _)
      | (with_reducible exact abacistref08_Root.mono _ _ _)
      | (with_reducible exact kern2_Transform.mono _ _ _)
      | (with_reducible exact LeO.refl _)
      | (with_reducible exact LeO.none _)
      | (with_reducible refine LeO.ite ?_ ?_)
      | (with_reducible refine LeO.bind ?_ (fun _ => ?_))
      | exact ih0 _ _ _ _ _ _
      | exact ih1 _ _ _ _ _ _ _ _
      | exact ih2 _ _ _ _ _ _ _ _ _
      | exact ih3 _ _ _ _ _ _ _ _ _
      | exact abacistlaw09_awake.mono _
      | exact abacistref02_Mul.mono _ _ _
      | exact abacistref03_Fits.mono _ _
      | exact abacistref08_Root.mono _ _ _
      | exact kern2_Transform.mono _ _ _
      | exact LeO.none _
      | refine LeO.ite ?_ ?_
      | refine LeO.bind ?_ (fun _ => ?_)
def abacistlaw09_HalvesLinear.T10 : Bool × List (List Nat × List Nat) := (true, [([], []), ([], []), ([], []), ([1, 2], [1, 2]), ([3], [3]), ([], []), ([], []), ([5, 6], [5, 6]), ([7], [7]), ([], []), ([8, 9], [8, 9]), ([4, 10, 10], [4, 10]), ([11], [11]), ([0, 12, 11], [0, 12]), ([13, 13, 0, 1, 2, 3, 4, 5, 6, 7, 8, 9, 10, 11, 12, 13], [0, 13])])
def abacistlaw09_HalvesLinear.B10 : List Nat := [0, 0, 0, 6, 14, 0, 0, 96, 224, 0, 992, 2046, 4094, 8191, 16383]
theorem abacistlaw09_HalvesLinear.tab10 : rtab .any (opsOf Tryd.f4 10) = abacistlaw09_HalvesLinear.T10 := by kernel_rfl
theorem abacistlaw09_HalvesLinear.bits10 : waitsOk abacistlaw09_HalvesLinear.T10.2 abacistlaw09_HalvesLinear.B10 = true := by kernel_rfl
def abacistlaw09_HalvesLinear.T23 : Bool × List (List Nat × List Nat) := (true, [([], []), ([], []), ([0, 1], [0, 1]), ([2], [2]), ([], []), ([], []), ([4, 5], [4, 5]), ([6], [6]), ([], []), ([], []), ([8, 9], [8, 9]), ([10], [10]), ([], []), ([11, 12], [11, 12]), ([7, 13, 13], [7, 13]), ([3, 14], [3, 14]), ([15, 14], [15]), ([16], [16]), ([16], [16]), ([17, 18, 16], [16, 17, 18]), ([19, 16], [16, 19]), ([16], [16]), ([16], [16]), ([21, 22, 16], [16, 21, 22]), ([23, 16], [16, 23]), ([16], [16]), ([24, 25, 16, 16], [16, 24, 25]), ([20, 26, 16], [16, 20, 26]), ([16, 27], [16, 27])])
def abacistlaw09_HalvesLinear.B23 : List Nat := [0, 0, 3, 7, 0, 0, 48, 112, 0, 0, 768, 1792, 0, 7936, 16368, 32767, 65535, 131071, 131071, 524287, 1048575, 131071, 131071, 6422527, 14811135, 131071, 65142783, 134217727, 268435455]
theorem abacistlaw09_HalvesLinear.tab23 : rtab .any (opsOf Tryd.f4 23) = abacistlaw09_HalvesLinear.T23 := by kernel_rfl
theorem abacistlaw09_HalvesLinear.bits23 : waitsOk abacistlaw09_HalvesLinear.T23.2 abacistlaw09_HalvesLinear.B23 = true := by kernel_rfl
set_option maxHeartbeats 80000000 in
set_option maxRecDepth 100000 in
theorem abacistlaw09_HalvesLinear.calls (k : Nat) (A0 : Option Addr) (c0 : Nat) (l0 : List Int) (A1 : Option Addr) (c1 : Nat) (l1 : List Int) (a2 : Int) (a3 : Int) (r : Bool) (hr_ : Aside0 (r = true)) (w : World) (hr0 : Kd.C (Kd.int .u64) w A0 l0.length l0) (hc0 : l0.length ≤ c0) (hr1 : Kd.C (Kd.int .u64) w A1 l1.length l1) (hc1 : l1.length ≤ c1) (hG : Aside0 (TzTab w)) (h : abacistlaw09_HalvesLinear.f k l0 l1 a2 a3 = some r) :
    Calls Tryd.prog 4 #[.slice A0 l0.length c0, .slice A1 l1.length c1, .int .u64 a2, .int .i64 a3] w fun e w' => e = .returned (.bool r) ∧ Below w.heap.size w w' := by
  have HR0 := Aside0.mk hr0
  have HC0 := Aside0.mk hc0
  clear hr0 hc0
  have HR1 := Aside0.mk hr1
  have HC1 := Aside0.mk hc1
  clear hr1 hc1
  have HB := Aside0.mk (Below.refl w.heap.size w)
  have H : ((abacistlaw09_awake.f k).bind fun t202 => (if t202 = true then ((abacistref03_Fits.f k (l0.length : Int)).bind fun t203 => (if (l0.length : Int) > 64 then (abacistlaw09_HalvesLinear.j0 k l0 l1 a2 a3 t203 true) else (if (l1.length : Int) = (l0.length : Int) then (if t203 < 0 then (abacistlaw09_HalvesLinear.j0 k l0 l1 a2 a3 t203 true) else (if a3 = 0 then (abacistlaw09_HalvesLinear.j0 k l0 l1 a2 a3 t203 false) else (abacistlaw09_HalvesLinear.j0 k l0 l1 a2 a3 t203 (a3 != 1)))) else (abacistlaw09_HalvesLinear.j0 k l0 l1 a2 a3 t203 true)))) else (some false))) = some r := h
  clear h
  replace H := Option.bind_eq_some_iff.mp H
  obtain ⟨t202, A50, H⟩ := H
  replace H : (if t202 = true then ((abacistref03_Fits.f k (l0.length : Int)).bind fun t203 => (if (l0.length : Int) > 64 then (abacistlaw09_HalvesLinear.j0 k l0 l1 a2 a3 t203 true) else (if (l1.length : Int) = (l0.length : Int) then (if t203 < 0 then (abacistlaw09_HalvesLinear.j0 k l0 l1 a2 a3 t203 true) else (if a3 = 0 then (abacistlaw09_HalvesLinear.j0 k l0 l1 a2 a3 t203 false) else (abacistlaw09_HalvesLinear.j0 k l0 l1 a2 a3 t203 (a3 != 1)))) else (abacistlaw09_HalvesLinear.j0 k l0 l1 a2 a3 t203 true)))) else (some false)) = some r := H
  have A5 := Aside0.mk A50
  clear A50
  by_cases c6 : t202 = true
  · subst c6
    have H1 : ((abacistref03_Fits.f k (l0.length : Int)).bind fun t203 => (if (l0.length : Int) > 64 then (abacistlaw09_HalvesLinear.j0 k l0 l1 a2 a3 t203 true) else (if (l1.length : Int) = (l0.length : Int) then (if t203 < 0 then (abacistlaw09_HalvesLinear.j0 k l0 l1 a2 a3 t203 true) else (if a3 = 0 then (abacistlaw09_HalvesLinear.j0 k l0 l1 a2 a3 t203 false) else (abacistlaw09_HalvesLinear.j0 k l0 l1 a2 a3 t203 (a3 != 1)))) else (abacistlaw09_HalvesLinear.j0 k l0 l1 a2 a3 t203 true)))) = some r := by rw [if_pos rfl] at H; exact H
    clear H
    have H := H1
    clear H1
    replace H := Option.bind_eq_some_iff.mp H
    obtain ⟨t203, A70, H⟩ := H
    replace H : (if (l0.length : Int) > 64 then (abacistlaw09_HalvesLinear.j0 k l0 l1 a2 a3 t203 true) else (if (l1.length : Int) = (l0.length : Int) then (if t203 < 0 then (abacistlaw09_HalvesLinear.j0 k l0 l1 a2 a3 t203 true) else (if a3 = 0 then (abacistlaw09_HalvesLinear.j0 k l0 l1 a2 a3 t203 false) else (abacistlaw09_HalvesLinear.j0 k l0 l1 a2 a3 t203 (a3 != 1)))) else (abacistlaw09_HalvesLinear.j0 k l0 l1 a2 a3 t203 true))) = some r := H
    have A7 := Aside0.mk A70
    clear A70
    have HC8 := Aside0.mk H
    clear H
    go_enter Tryd.func4, Tryd.ntmps4
    go_upto_region 4 with (first | ((with_reducible refine gate_callee (f := 9) rfl ?_); refine goesL_ (some 24) rfl rfl Tryd.func9 (by kernel_rfl) rfl #[] rfl (by (try simp only [List.map_toArray, List.map_cons, List.map_nil]); first | done | rfl | (simp only [List.length_drop, List.length_take]; rfl)) ?_; (with_reducible refine (abacistlaw09_awake.calls k  true _ ?sideG A5.out).mono ?_); (case sideG => first | exact hG | exact ⟨hG.out⟩ | exact ⟨hG.out.below (by repeat (first | (with_reducible first | exact HB.out | apply below_alloc | apply pw_below_drewN | apply below_drew1) | exact HB.out))⟩); rintro e w9 ⟨rfl, hb⟩; refine ⟨_, rfl, ?_⟩; have n0_ := Aside0.mk (below_step (by repeat (first | (with_reducible first | exact HB.out | apply below_alloc | apply pw_below_drewN | apply below_drew1) | exact HB.out)) hb); clear HB; have HB := n0_; clear n0_; (try clear hb); (try clear hb2); (try clear hk); (try clear hi)) | (go_at_call 9; (with_reducible refine (abacistlaw09_awake.calls k  true _ ?sideG A5.out).mono ?_); (case sideG => first | exact hG | exact ⟨hG.out⟩ | exact ⟨hG.out.below (by repeat (first | (with_reducible first | exact HB.out | apply below_alloc | apply pw_below_drewN | apply below_drew1) | exact HB.out))⟩); rintro e w9 ⟨rfl, hb⟩; have n0_ := Aside0.mk (below_step (by repeat (first | (with_reducible first | exact HB.out | apply below_alloc | apply pw_below_drewN | apply below_drew1) | exact HB.out)) hb); clear HB; have HB := n0_; clear n0_; (try clear hb); (try clear hb2); (try clear hk); (try clear hi)) | ((with_reducible refine gate_callee (f := 10) rfl ?_); refine goesL_ (some 28) rfl rfl Tryd.func10 (by kernel_rfl) rfl #[.int .i64 (l0.length : Int)] rfl (by (try simp only [List.map_toArray, List.map_cons, List.map_nil]); first | done | rfl | (simp only [List.length_drop, List.length_take]; rfl)) ?_; (with_reducible refine (abacistref03_Fits.calls k (l0.length : Int) t203 _ A7.out).mono ?_); rintro e w' ⟨rfl, ⟨nd, rfl⟩⟩; refine ⟨_, rfl, ?_⟩) | (go_at_call 10; (with_reducible refine (abacistref03_Fits.calls k (l0.length : Int) t203 _ A7.out).mono ?_); rintro e w' ⟨rfl, ⟨nd, rfl⟩⟩))
    (try simp only [Act.put, List.setIfInBounds_toArray, List.set_cons_zero, List.set_cons_succ])
    go_cut [50] (fun v50 wc => ∃ (kq : Nat) (x50_7 : Bool), v50 = .bool x50_7 ∧ Aside0 (abacistlaw09_HalvesLinear.j0 kq l0 l1 a2 a3 t203 x50_7 = some r) ∧ Aside0 (kq ≤ k) ∧ Aside0 (Below w.heap.size w wc))
    case first =>
      have H := HC8.out
      clear HC8
      by_cases c10 : (l0.length : Int) > 64
      · rw [if_pos c10] at H
        have c10b0 : decide (64 < (l0.length : Int)) = true := decide_eq_true c10
        have c10b1 : decide (64 < l0.length) = true := decide_eq_true (by omega)
        clear c10
        (first | rw [c10b0] | (simp only [i64_w, i32_w]; rw [c10b0]) | skip)
        have H' := Aside0.mk H
        clear H
        go_wp2
        go_meet
        case rel => exact ⟨_, (true), (by first | rfl | (simp; done) | (simp [*]; done)), H', ⟨by first | omega | exact Nat.le_refl _⟩, ⟨by repeat (first | (with_reducible first | exact HB.out | apply below_alloc | apply pw_below_drewN | apply below_drew1) | exact HB.out)⟩⟩
      · rw [if_neg c10] at H
        have c10b0 : decide (64 < (l0.length : Int)) = false := decide_eq_false c10
        have c10b1 : decide (64 < l0.length) = false := decide_eq_false (by omega)
        clear c10
        (first | rw [c10b0] | (simp only [i64_w, i32_w]; rw [c10b0]) | skip)
        by_cases c11 : (l1.length : Int) = (l0.length : Int)
        · rw [if_pos c11] at H
          have c11b0 : ((l1.length : Int) == (l0.length : Int)) = true := beq_iff_eq.mpr c11
          have c11b1 : ((l1.length : Int) != (l0.length : Int)) = false := bne_eq_false_iff_eq.mpr c11
          have c11b2 : (l1.length == l0.length) = true := by first | simpa using c11 | (simp at c11 ⊢; omega)
          clear c11
          by_cases c12 : t203 < 0
          · rw [if_pos c12] at H
            have c12b0 : decide (t203 < 0) = true := decide_eq_true c12
            clear c12
            have H' := Aside0.mk H
            clear H
            go_wp2
            go_meet
            case rel => exact ⟨_, (true), (by first | rfl | (simp; done) | (simp [*]; done)), H', ⟨by first | omega | exact Nat.le_refl _⟩, ⟨by repeat (first | (with_reducible first | exact HB.out | apply below_alloc | apply pw_below_drewN | apply below_drew1) | exact HB.out)⟩⟩
          · rw [if_neg c12] at H
            have c12b0 : decide (t203 < 0) = false := decide_eq_false c12
            clear c12
            by_cases c13 : a3 = 0
            · rw [if_pos c13] at H
              have c13b0 : (a3 == 0) = true := beq_iff_eq.mpr c13
              have c13b1 : (a3 != 0) = false := bne_eq_false_iff_eq.mpr c13
              clear c13
              have H' := Aside0.mk H
              clear H
              go_wp2
              go_meet
              case rel => exact ⟨_, (false), (by first | rfl | (simp; done) | (simp [*]; done)), H', ⟨by first | omega | exact Nat.le_refl _⟩, ⟨by repeat (first | (with_reducible first | exact HB.out | apply below_alloc | apply pw_below_drewN | apply below_drew1) | exact HB.out)⟩⟩
            · rw [if_neg c13] at H
              have c13b0 : (a3 == 0) = false := beq_eq_false_iff_ne.mpr c13
              have c13b1 : (a3 != 0) = true := bne_iff_ne.mpr c13
              have H' := Aside0.mk H
              clear H
              go_wp2
              go_meet
              case rel => exact ⟨_, ((a3 != 1)), (by first | rfl | (simp; done) | (simp [*]; done)), H', ⟨by first | omega | exact Nat.le_refl _⟩, ⟨by repeat (first | (with_reducible first | exact HB.out | apply below_alloc | apply pw_below_drewN | apply below_drew1) | exact HB.out)⟩⟩
        · rw [if_neg c11] at H
          have c11b0 : ((l1.length : Int) == (l0.length : Int)) = false := beq_eq_false_iff_ne.mpr c11
          have c11b1 : ((l1.length : Int) != (l0.length : Int)) = true := bne_iff_ne.mpr c11
          have c11b2 : (l1.length == l0.length) = false := by first | simpa using c11 | (simp at c11 ⊢; omega)
          have H' := Aside0.mk H
          clear H
          go_wp2
          go_meet
          case rel => exact ⟨_, (true), (by first | rfl | (simp; done) | (simp [*]; done)), H', ⟨by first | omega | exact Nat.le_refl _⟩, ⟨by repeat (first | (with_reducible first | exact HB.out | apply below_alloc | apply pw_below_drewN | apply below_drew1) | exact HB.out)⟩⟩
    case rest =>
      clear HC8
      try clear c1
      try clear p2
      try clear c4
      try clear c6
      try clear c9
      try clear c10
      try clear c10b0
      try clear c10b1
      try clear c11
      try clear c11b0
      try clear c11b1
      try clear c11b2
      try clear c12
      try clear c12b0
      try clear c13
      try clear c13b0
      try clear c13b1
      obtain ⟨kq, x50_7, rfl, HA, HJ7, HB⟩ := hcut
      cases kq with
      | zero => exact absurd HA.out (by simp [abacistlaw09_HalvesLinear.j0])
      | succ kj7 =>
        have H := HA.out
        clear HA
        simp only [abacistlaw09_HalvesLinear.j0] at H
        by_cases c14 : x50_7 = true
        · subst c14
          have H1 : (some true) = some r := by rw [if_pos rfl] at H; exact H
          clear H
          have H := H1
          clear H1
          obtain rfl := Option.some.inj H
          go_wp2
          go_ret
          exact ⟨by first | rfl | (simp [errW_none, errW_some] <;> rfl) | (simp [*, errW_none, errW_some] <;> rfl), by repeat (first | (with_reducible first | exact HB.out | apply below_alloc | apply pw_below_drewN | apply below_drew1) | exact HB.out)⟩
        · replace c14 := Bool.eq_false_iff.mpr c14
          subst c14
          have H1 : (abacistlaw09_HalvesLinear.l0 kj7 l0 l1 a2 a3 t203 ([] : List Int) ([] : List Int) 0) = some r := by rw [if_neg (show ¬ (false = true) by decide)] at H; exact H
          clear H
          have H := H1
          clear H1
          have H' := Aside0.mk H
          clear H
          go_wp2
          go_loopg [10, 11, 12] kj7 (fun kq v10 v11 v12 w' => ∃ (x10_2 : List Int) (x11_2 : List Int) (x12_2 : Int), v12 = .int .i64 x12_2 ∧ Aside0 (abacistlaw09_HalvesLinear.l0 kq l0 l1 a2 a3 t203 x10_2 x11_2 x12_2 = some r) ∧ Aside0 (kq ≤ kj7) ∧ Aside0 (Kd.R (Kd.int .u64) 32 w' w.heap.size (fun k_ => some k_ ≠ (v11 : Value).ownBlock) v10 x10_2) ∧ Aside0 (Kd.R (Kd.int .u64) 32 w' w.heap.size (fun k_ => some k_ ≠ (v10 : Value).ownBlock) v11 x11_2) ∧ Aside0 (Below w.heap.size w w'))
          case atStart => exact ⟨(([] : List Int)), (([] : List Int)), (0), (by first | rfl | (simp; done) | (simp [*]; done)), H', ⟨Nat.le_refl _⟩, ⟨by first | exact Kd.R_nil _ _ _ _ _ | exact Kd.N_nil _ _ _ _ _ | exact Kd.V_nil _ _ _ _ _ | exact Kd.Q_nil _ _ _ _ _ | exact Kd.S_nil _ _ _ _ _⟩, ⟨by first | exact Kd.R_nil _ _ _ _ _ | exact Kd.N_nil _ _ _ _ _ | exact Kd.V_nil _ _ _ _ _ | exact Kd.Q_nil _ _ _ _ _ | exact Kd.S_nil _ _ _ _ _⟩, ⟨by repeat (first | (with_reducible first | exact HB.out | apply below_alloc | apply pw_below_drewN | apply below_drew1) | exact HB.out)⟩⟩
          case round =>
            clear H'
            try clear c1
            try clear p2
            try clear c4
            try clear c6
            try clear c9
            try clear c10
            try clear c10b0
            try clear c10b1
            try clear c11
            try clear c11b0
            try clear c11b1
            try clear c11b2
            try clear c12
            try clear c12b0
            try clear c13
            try clear c13b0
            try clear c13b1
            try clear c14
            try clear p2
            obtain ⟨x10_2, x11_2, x12_2, rfl, HA, HK2, HO_10, HO_11, HB⟩ := hrel
            cases gk with
            | zero => exact absurd HA.out (by simp [abacistlaw09_HalvesLinear.l0])
            | succ k2 =>
              have H := HA.out
              clear HA
              simp only [abacistlaw09_HalvesLinear.l0] at H
              by_cases c15 : x12_2 < (l0.length : Int)
              · rw [if_pos c15] at H
                have c15b0 : decide (x12_2 < (l0.length : Int)) = true := decide_eq_true c15
                clear c15
                by_cases c16 : 0 ≤ x12_2
                · rw [if_pos c16] at H
                  have c16b0 : decide (0 ≤ x12_2) = true := decide_eq_true c16
                  clear c16
                  by_cases c17 : x12_2 < (l1.length : Int)
                  · rw [if_pos c17] at H
                    have c17b0 : decide (x12_2 < (l1.length : Int)) = true := decide_eq_true c17
                    clear c17
                    replace H := Option.bind_eq_some_iff.mp H
                    obtain ⟨t206, A180, H⟩ := H
                    replace H : ((abacistref02_Add.f (rd l0 x12_2) t206).bind fun t207 => (if x10_2.length < 17592186044416 then (if (l0.length : Int) = 0 then (none) else (if 0 ≤ (Int.tmod (wrap64 ((wrap64 (x12_2 + (l0.length : Int))) - 1)) (l0.length : Int)) then (if (Int.tmod (wrap64 ((wrap64 (x12_2 + (l0.length : Int))) - 1)) (l0.length : Int)) < (l0.length : Int) then (if x11_2.length < 17592186044416 then (abacistlaw09_HalvesLinear.l0 k2 l0 l1 a2 a3 t203 (x10_2 ++ [t207]) (x11_2 ++ [rd l0 (Int.tmod (wrap64 ((wrap64 (x12_2 + (l0.length : Int))) - 1)) (l0.length : Int))]) (wrap64 (x12_2 + 1))) else (none)) else (none)) else (none))) else (none))) = some r := H
                    have A18 := Aside0.mk A180
                    clear A180
                    replace H := Option.bind_eq_some_iff.mp H
                    obtain ⟨t207, A190, H⟩ := H
                    replace H : (if x10_2.length < 17592186044416 then (if (l0.length : Int) = 0 then (none) else (if 0 ≤ (Int.tmod (wrap64 ((wrap64 (x12_2 + (l0.length : Int))) - 1)) (l0.length : Int)) then (if (Int.tmod (wrap64 ((wrap64 (x12_2 + (l0.length : Int))) - 1)) (l0.length : Int)) < (l0.length : Int) then (if x11_2.length < 17592186044416 then (abacistlaw09_HalvesLinear.l0 k2 l0 l1 a2 a3 t203 (x10_2 ++ [t207]) (x11_2 ++ [rd l0 (Int.tmod (wrap64 ((wrap64 (x12_2 + (l0.length : Int))) - 1)) (l0.length : Int))]) (wrap64 (x12_2 + 1))) else (none)) else (none)) else (none))) else (none)) = some r := H
                    have A19 := Aside0.mk A190
                    clear A190
                    by_cases c20 : x10_2.length < 17592186044416
                    · rw [if_pos c20] at H
                      have LMc20 := Aside0.mk c20
                      clear c20
                      obtain ⟨y208, hy208⟩ : ∃ y_ : List Int, y_ = (x10_2 ++ [t207]) := ⟨_, rfl⟩
                      replace H : (if (l0.length : Int) = 0 then (none) else (if 0 ≤ (Int.tmod (wrap64 ((wrap64 (x12_2 + (l0.length : Int))) - 1)) (l0.length : Int)) then (if (Int.tmod (wrap64 ((wrap64 (x12_2 + (l0.length : Int))) - 1)) (l0.length : Int)) < (l0.length : Int) then (if x11_2.length < 17592186044416 then (abacistlaw09_HalvesLinear.l0 k2 l0 l1 a2 a3 t203 y208 (x11_2 ++ [rd l0 (Int.tmod (wrap64 ((wrap64 (x12_2 + (l0.length : Int))) - 1)) (l0.length : Int))]) (wrap64 (x12_2 + 1))) else (none)) else (none)) else (none))) = some r := by first | (rw [hy208]; with_reducible exact H) | (have H2_ := (Option.bind_some _ _).symm.trans H; rw [hy208]; with_reducible exact H2_) | (have H2_ := (Option.bind_some _ _).symm.trans H; with_reducible exact H2_) | with_reducible exact H | (rw [hy208]; exact H) | exact H
                      have Ny208 := Aside0.mk hy208
                      clear hy208
                      by_cases c21 : (l0.length : Int) = 0
                      · rw [if_pos c21] at H
                        exact absurd H (by simp)
                      · rw [if_neg c21] at H
                        have c21b0 : ((l0.length : Int) == 0) = false := beq_eq_false_iff_ne.mpr c21
                        have c21b1 : ((l0.length : Int) != 0) = true := bne_iff_ne.mpr c21
                        have c21b2 : ¬ (l0 = []) := fun h_ => c21 (by rw [h_]; rfl)
                        obtain ⟨ji22, hji22⟩ : ∃ j_ : Int, (Int.tmod (wrap64 ((wrap64 (x12_2 + (l0.length : Int))) - 1)) (l0.length : Int)) = j_ := ⟨_, rfl⟩
                        (try (have hji22w : (Int.tmod (IntKind.i64.wrap ((IntKind.i64.wrap (x12_2 + (l0.length : Int))) - 1)) (l0.length : Int)) = ji22 := by simpa only [i64_w] using hji22))
                        replace H : (if 0 ≤ (ji22) then (if (ji22) < (l0.length : Int) then (if x11_2.length < 17592186044416 then (abacistlaw09_HalvesLinear.l0 k2 l0 l1 a2 a3 t203 y208 (x11_2 ++ [rd l0 (ji22)]) (wrap64 (x12_2 + 1))) else (none)) else (none)) else (none)) = some r := by first | (rw [hji22] at H; exact H) | (simp only [hji22] at H ⊢; exact H)
                        (try rw [hji22] at A18)
                        (try rw [hji22] at A19)
                        by_cases c23 : 0 ≤ (ji22)
                        · rw [if_pos c23] at H
                          have c23b0 : decide (0 ≤ (ji22)) = true := decide_eq_true c23
                          clear c23
                          by_cases c24 : (ji22) < (l0.length : Int)
                          · rw [if_pos c24] at H
                            have c24b0 : decide ((ji22) < (l0.length : Int)) = true := decide_eq_true c24
                            clear c24
                            by_cases c25 : x11_2.length < 17592186044416
                            · rw [if_pos c25] at H
                              have LMc25 := Aside0.mk c25
                              clear c25
                              obtain ⟨y212, hy212⟩ : ∃ y_ : List Int, y_ = (x11_2 ++ [rd l0 (ji22)]) := ⟨_, rfl⟩
                              replace H : (abacistlaw09_HalvesLinear.l0 k2 l0 l1 a2 a3 t203 y208 y212 (wrap64 (x12_2 + 1))) = some r := by first | (rw [hy212]; with_reducible exact H) | (have H2_ := (Option.bind_some _ _).symm.trans H; rw [hy212]; with_reducible exact H2_) | (have H2_ := (Option.bind_some _ _).symm.trans H; with_reducible exact H2_) | with_reducible exact H | (rw [hy212]; exact H) | exact H
                              have Ny212 := Aside0.mk hy212
                              clear hy212
                              have H' := Aside0.mk H
                              clear H
                              try go_wp2
                              have n0_ := Aside0.mk (Kd.R_drew HO_10.out)
                              have n1_ := Aside0.mk (Kd.R_drew HO_11.out)
                              have n2_ := Aside0.mk (below_drew1 HB.out)
                              clear HO_10
                              clear HO_11
                              clear HB
                              have HO_10 := n0_
                              have HO_11 := n1_
                              have HB := n2_
                              clear n0_ n1_ n2_
                              have p204 : 0 ≤ (x12_2 : Int) := of_decide_eq_true (by first | (with_reducible assumption) | assumption)
                              have q204 : x12_2 < (l0.length : Int) := of_decide_eq_true (by first | (with_reducible assumption) | assumption)
                              obtain ⟨ad204, e204, hx204_0⟩ := Kd.at_int HR0.out x12_2 p204 q204
                              have hw204_0 := hx204_0
                              cases e204
                              replace hx204_0 := (HB.out.cell (World.block_lt_of_cell? w _ hx204_0)).trans hx204_0
                              replace p204 := eq_true p204
                              replace q204 := eq_true q204
                              have p205 : 0 ≤ (x12_2 : Int) := of_decide_eq_true (by first | (with_reducible assumption) | assumption)
                              have q205 : x12_2 < (l1.length : Int) := of_decide_eq_true (by first | (with_reducible assumption) | assumption)
                              obtain ⟨ad205, e205, hx205_0⟩ := Kd.at_int HR1.out x12_2 p205 q205
                              have hw205_0 := hx205_0
                              cases e205
                              replace hx205_0 := (HB.out.cell (World.block_lt_of_cell? w _ hx205_0)).trans hx205_0
                              replace p205 := eq_true p205
                              replace q205 := eq_true q205
                              refine start_ (n := 15) (S := fun w' => w'.cell? (ad204.add (x12_2).toNat) = some (.int .u64 (rd l0 x12_2)) ∧ w'.cell? (ad205.add (x12_2).toNat) = some (.int .u64 (rd l1 x12_2))) (ds := []) #[false, false, false, false, false, false, false, false, false, false, false, false, false, false, false] (by kernel_rfl) rfl rfl ⟨((HB.out.cell (World.block_lt_of_cell? w _ hw204_0)).trans hw204_0), ((HB.out.cell (World.block_lt_of_cell? w _ hw205_0)).trans hw205_0)⟩ (fun hHeld => ?_); refine with_tabW abacistlaw09_HalvesLinear.tab10 abacistlaw09_HalvesLinear.bits10 (fun HT_ HW_ => ?_)
                              generalize wr.drew = w26 at HO_10 HO_11 HB hx204_0 hx205_0 hHeld ⊢
                              refine pure_ (i := 0) (N := some 57) (v := ?_) (a' := ?_) #[true, false, false, false, false, false, false, false, false, false, false, false, false, false, false] rfl rfl (any_of HT_.out (by kernel_rfl)) (fun _ _ _ h => h) (Or.inl ⟨by rfl, ?_⟩) ?_ ?_
                              rotate_left
                              · intro w'
                                go_simp
                                with_reducible rfl
                              rotate_left
                              · simp only [Act.put, List.setIfInBounds_toArray, List.set_cons_zero, List.set_cons_succ, i64_w, i32_w]
                                rfl
                              refine pure_ (i := 1) (N := some 58) (v := ?_) (a' := ?_) #[true, true, false, false, false, false, false, false, false, false, false, false, false, false, false] rfl rfl (any_of HT_.out (by kernel_rfl)) (fun _ _ _ h => h) (Or.inl ⟨by rfl, ?_⟩) ?_ ?_
                              rotate_left
                              · intro w'
                                go_simp
                                with_reducible rfl
                              rotate_left
                              · simp only [Act.put, List.setIfInBounds_toArray, List.set_cons_zero, List.set_cons_succ, i64_w, i32_w]
                                rfl
                              refine pure_ (i := 2) (N := some 59) (v := ?_) (a' := ?_) #[true, true, true, false, false, false, false, false, false, false, false, false, false, false, false] rfl rfl (any_of HT_.out (by kernel_rfl)) (fun _ _ _ h => h) (Or.inl ⟨by rfl, ?_⟩) ?_ ?_
                              rotate_left
                              · intro w'
                                go_simp
                                with_reducible rfl
                              rotate_left
                              · simp only [Act.put, List.setIfInBounds_toArray, List.set_cons_zero, List.set_cons_succ, i64_w, i32_w]
                                rfl
                              refine pure_ (i := 3) (N := some 60) (v := ?_) (a' := ?_) #[true, true, true, true, false, false, false, false, false, false, false, false, false, false, false] rfl rfl (any_of HT_.out (by kernel_rfl)) (fun _ _ _ h => h) (Or.inl ⟨by rfl, ?_⟩) ?_ ?_
                              rotate_left
                              · intro w'
                                go_simp
                                with_reducible rfl
                              rotate_left
                              · simp only [Act.put, List.setIfInBounds_toArray, List.set_cons_zero, List.set_cons_succ, i64_w, i32_w]
                                rfl
                              refine pure_ (i := 5) (N := some 62) (v := ?_) (a' := ?_) #[true, true, true, true, false, true, false, false, false, false, false, false, false, false, false] rfl rfl (any_of HT_.out (by kernel_rfl)) (fun _ _ _ h => h) (Or.inl ⟨by rfl, ?_⟩) ?_ ?_
                              rotate_left
                              · intro w'
                                go_simp
                                with_reducible rfl
                              rotate_left
                              · simp only [Act.put, List.setIfInBounds_toArray, List.set_cons_zero, List.set_cons_succ, i64_w, i32_w]
                                rfl
                              refine pure_ (i := 6) (N := some 63) (v := ?_) (a' := ?_) #[true, true, true, true, false, true, true, false, false, false, false, false, false, false, false] rfl rfl (any_of HT_.out (by kernel_rfl)) (fun _ _ _ h => h) (Or.inl ⟨by rfl, ?_⟩) ?_ ?_
                              rotate_left
                              · intro w'
                                go_simp
                                with_reducible rfl
                              rotate_left
                              · simp only [Act.put, List.setIfInBounds_toArray, List.set_cons_zero, List.set_cons_succ, i64_w, i32_w]
                                rfl
                              refine pure_ (i := 7) (N := some 64) (v := ?_) (a' := ?_) #[true, true, true, true, false, true, true, true, false, false, false, false, false, false, false] rfl rfl (any_of HT_.out (by kernel_rfl)) (fun _ _ _ h => h) (Or.inl ⟨by rfl, ?_⟩) ?_ ?_
                              rotate_left
                              · intro w'
                                go_simp
                                with_reducible rfl
                              rotate_left
                              · simp only [Act.put, List.setIfInBounds_toArray, List.set_cons_zero, List.set_cons_succ, i64_w, i32_w]
                                rfl
                              refine pure_ (i := 9) (N := some 66) (v := ?_) (a' := ?_) #[true, true, true, true, false, true, true, true, false, true, false, false, false, false, false] rfl rfl (any_of HT_.out (by kernel_rfl)) (fun _ _ _ h => h) (Or.inl ⟨by rfl, ?_⟩) ?_ ?_
                              rotate_left
                              · intro w'
                                go_simp
                                with_reducible rfl
                              rotate_left
                              · simp only [Act.put, List.setIfInBounds_toArray, List.set_cons_zero, List.set_cons_succ, i64_w, i32_w]
                                rfl
                              refine take_ (i := 4) (N := some 61) (v := ?_) (a' := ?_) #[true, true, true, true, true, true, true, true, false, true, false, false, false, false, false] rfl rfl (take_ofW HT_.out HW_.out (by kernel_rfl)) (fun _ _ _ h => h) (Or.inl ⟨by rfl, ?_⟩) hHeld ?_ ?_
                              rotate_left
                              · rintro w' ⟨s0, s1⟩
                                go_simp
                                with_reducible rfl
                              rotate_left
                              · simp only [Act.put, List.setIfInBounds_toArray, List.set_cons_zero, List.set_cons_succ, i64_w, i32_w]
                                rfl
                              refine take_ (i := 8) (N := some 65) (v := ?_) (a' := ?_) #[true, true, true, true, true, true, true, true, true, true, false, false, false, false, false] rfl rfl (take_ofW HT_.out HW_.out (by kernel_rfl)) (fun _ _ _ h => h) (Or.inl ⟨by rfl, ?_⟩) hHeld ?_ ?_
                              rotate_left
                              · rintro w' ⟨s0, s1⟩
                                go_simp
                                with_reducible rfl
                              rotate_left
                              · simp only [Act.put, List.setIfInBounds_toArray, List.set_cons_zero, List.set_cons_succ, i64_w, i32_w]
                                rfl
                              refine one_ (i := 10) (N := some 67) #[true, true, true, true, true, true, true, true, true, true, true, false, false, false, false] rfl rfl (one_of HT_.out (by kernel_rfl)) (by decide) (fun K hK => ?_)
                              refine goes_ Tryd.func16 (by kernel_rfl) rfl #[.int .u64 (rd l1 x12_2), .int .u64 a2] (by rfl) rfl rfl (by (try simp only [List.map_toArray, List.map_cons, List.map_nil]); first | done | rfl | (simp only [List.length_drop, List.length_take]; rfl)) ?_
                              with_reducible refine (abacistref02_Mul.calls k2 (rd l1 x12_2) a2 t206 _ A18.out).mono ?_
                              rintro e w' ⟨rfl, ⟨nd, rfl⟩⟩
                              refine ⟨_, rfl, ?_⟩
                              refine hK.out _ _ ⟨((HB.out.cell (World.block_lt_of_cell? w _ hw204_0)).trans hw204_0), ((HB.out.cell (World.block_lt_of_cell? w _ hw205_0)).trans hw205_0)⟩ (fun hHeld => ?_)
                              clear hK K
                              refine norm_ (a' := ?_) ?_ ?_
                              rotate_left
                              · show Act.put _ (some 67) _ = _
                                simp only [Act.put, List.setIfInBounds_toArray, List.set_cons_zero, List.set_cons_succ, i64_w, i32_w]
                                rfl
                              refine one_ (i := 11) (N := some 68) #[true, true, true, true, true, true, true, true, true, true, true, true, false, false, false] rfl rfl (one_of HT_.out (by kernel_rfl)) (by decide) (fun K hK => ?_)
                              refine goes_ Tryd.func15 (by kernel_rfl) rfl #[.int .u64 (rd l0 x12_2), .int .u64 t206] (by rfl) rfl rfl (by (try simp only [List.map_toArray, List.map_cons, List.map_nil]); first | done | rfl | (simp only [List.length_drop, List.length_take]; rfl)) ?_
                              with_reducible refine (abacistref02_Add.calls (rd l0 x12_2) t206 t207 _ A19.out).mono ?_
                              rintro e w' ⟨rfl, ⟨nd, rfl⟩⟩
                              refine ⟨_, rfl, ?_⟩
                              refine hK.out _ _ ⟨((HB.out.cell (World.block_lt_of_cell? w _ hw204_0)).trans hw204_0), ((HB.out.cell (World.block_lt_of_cell? w _ hw205_0)).trans hw205_0)⟩ (fun hHeld => ?_)
                              clear hK K
                              refine norm_ (a' := ?_) ?_ ?_
                              rotate_left
                              · show Act.put _ (some 68) _ = _
                                simp only [Act.put, List.setIfInBounds_toArray, List.set_cons_zero, List.set_cons_succ, i64_w, i32_w]
                                rfl
                              refine one_ (i := 12) (N := some 69) #[true, true, true, true, true, true, true, true, true, true, true, true, true, false, false] rfl rfl (one_of HT_.out (by kernel_rfl)) (by decide) (fun K hK => ?_)
                              refine value_ (w1 := ?_) (v := ?_) (by rfl) rfl ?_ ?_
                              rotate_left 2
                              · go_simp
                                constructor
                                · rfl
                                · rfl
                              refine hK.out _ _ ⟨(World.cell?_alloc_lt _ _ _ (World.block_lt_of_cell? _ _ (((HB.out.cell (World.block_lt_of_cell? w _ hw204_0)).trans hw204_0)))).trans (((HB.out.cell (World.block_lt_of_cell? w _ hw204_0)).trans hw204_0)), (World.cell?_alloc_lt _ _ _ (World.block_lt_of_cell? _ _ (((HB.out.cell (World.block_lt_of_cell? w _ hw205_0)).trans hw205_0)))).trans (((HB.out.cell (World.block_lt_of_cell? w _ hw205_0)).trans hw205_0))⟩ (fun hHeld => ?_)
                              clear hK K
                              refine norm_ (a' := ?_) ?_ ?_
                              rotate_left
                              · show Act.put _ (some 69) _ = _
                                simp only [Act.put, List.setIfInBounds_toArray, List.set_cons_zero, List.set_cons_succ, i64_w, i32_w]
                                rfl
                              refine one_ (i := 13) (N := some 70) #[true, true, true, true, true, true, true, true, true, true, true, true, true, true, false] rfl rfl (one_of HT_.out (by kernel_rfl)) (by decide) (fun K hK => ?_)
                              refine Kd.R_append_step (Kd.int .u64) (w0 := w) w.heap.size (by rfl) (.tmp 57) (.tmp 69) 22 32 (.int .u64 0) 8 rfl Tryd.underlying22 info32 rfl (by decide) (by omega) u10 x10_2 t207 [.int .u64 t207] (fun k_ => some k_ ≠ (u11 : Value).ownBlock) (fun _ => False) rfl rfl ?aP (fun _ hk => hk.elim) ?aF ?aO ?aB ?aS ?aL ?_
                              (case aP => exact rfl)
                              (case aB => exact (by repeat (first | (with_reducible first | exact HB.out | apply below_alloc | apply pw_below_drewN | apply below_drew1) | exact HB.out)))
                              (case aF => exact (fun k_ hk => Kd.fresh' (Kd.R_lt (by (with_reducible repeat (first | apply Kd.R_alloc | apply Kd.R_drewN | apply Kd.R_drew)); exact HO_11.out)) k_ hk))
                              (case aO => exact (by (with_reducible repeat (first | apply Kd.R_alloc | apply Kd.R_drewN | apply Kd.R_drew)); exact HO_10.out))
                              (case aS => exact (below_size (by repeat (first | (with_reducible first | exact HB.out | apply below_alloc | apply pw_below_drewN | apply below_drew1) | exact HB.out))))
                              (case aL => have := LMc20.out; omega)
                              intro v209 w27 ho hb hg hat
                              rw [← Ny208.out] at ho
                              have n0_ := Aside0.mk (Kd.R_after (ok := (fun _ => True)) (by (with_reducible repeat (first | apply Kd.R_alloc | apply Kd.R_drewN | apply Kd.R_drew)); exact Kd.R_mono HO_11.out (fun _ hk => ⟨trivial, hk⟩)) hg hat)
                              have n1_ := Aside0.mk (hb)
                              have n2_ := Aside0.mk (ho)
                              clear HO_11
                              clear HB
                              clear HO_10
                              have HO_11 := n0_
                              have HB := n1_
                              have HO210 := n2_
                              clear n0_ n1_ n2_
                              clear ho hb hg hat
                              refine hK.out _ _ ⟨((HB.out.cell (World.block_lt_of_cell? w _ hw204_0)).trans hw204_0), ((HB.out.cell (World.block_lt_of_cell? w _ hw205_0)).trans hw205_0)⟩ (fun hHeld => ?_)
                              clear hK K
                              refine norm_ (a' := ?_) ?_ ?_
                              rotate_left
                              · show Act.put _ (some 70) _ = _
                                simp only [Act.put, List.setIfInBounds_toArray, List.set_cons_zero, List.set_cons_succ, i64_w, i32_w]
                                rfl
                              refine pure_ (i := 14) (N := some 10) (v := ?_) (a' := ?_) #[true, true, true, true, true, true, true, true, true, true, true, true, true, true, true] rfl rfl (any_of HT_.out (by kernel_rfl)) (fun _ _ _ h => h) (Or.inl ⟨by rfl, ?_⟩) ?_ ?_
                              rotate_left
                              · intro w'
                                go_simp
                                with_reducible rfl
                              rotate_left
                              · simp only [Act.put, List.setIfInBounds_toArray, List.set_cons_zero, List.set_cons_succ, i64_w, i32_w]
                                rfl
                              refine done_ (done_of HT_.out (by kernel_rfl)) ?_
                              have p211 : 0 ≤ ((ji22) : Int) := of_decide_eq_true (by first | (with_reducible assumption) | assumption)
                              have q211 : (ji22) < (l0.length : Int) := of_decide_eq_true (by first | (with_reducible assumption) | assumption)
                              obtain ⟨ad211, e211, hx211_0⟩ := Kd.at_int HR0.out (ji22) p211 q211
                              obtain rfl : ad204 = ad211 := (by injection e211)
                              replace hx211_0 := (HB.out.cell (World.block_lt_of_cell? w _ hx211_0)).trans hx211_0
                              replace p211 := eq_true p211
                              replace q211 := eq_true q211
                              try go_wp2_with (first | ((with_reducible refine gate_builtin (b := .append) (xs := #[.tmp 71, .tmp 83]) rfl ?_); (try (refine gate_guard (by rfl) ?_; dsimp only)); at_builtin; refine Kd.R_append (Kd.int .u64) (w0 := w) w.heap.size rfl (.tmp 71) (.tmp 83) 22 32 (.int .u64 0) 8 rfl Tryd.underlying22 info32 rfl (by decide) (by omega) u11 x11_2 (rd l0 (ji22)) [.int .u64 (rd l0 (ji22))] (fun k_ => some k_ ≠ (v209 : Value).ownBlock) (fun _ => False) rfl rfl ?aP (fun _ hk => hk.elim) ?aF ?aO ?aB ?aS ?aL ?_; (case aP => exact rfl); (case aB => exact (by repeat (first | (with_reducible first | exact HB.out | apply below_alloc | apply pw_below_drewN | apply below_drew1) | exact HB.out))); (case aF => exact (fun k_ hk => Kd.fresh' (Kd.R_lt (by (with_reducible repeat (first | apply Kd.R_alloc | apply Kd.R_drewN | apply Kd.R_drew)); exact HO210.out)) k_ hk)); (case aO => exact (by (with_reducible repeat (first | apply Kd.R_alloc | apply Kd.R_drewN | apply Kd.R_drew)); exact Kd.R_mono HO_11.out (fun _ hk => hk.2))); (case aS => exact (below_size (by repeat (first | (with_reducible first | exact HB.out | apply below_alloc | apply pw_below_drewN | apply below_drew1) | exact HB.out)))); (case aL => have := LMc25.out; omega); intro v213 w28 ho hb hg hat; rw [← Ny212.out] at ho; have n0_ := Aside0.mk (Kd.R_after (ok := (fun _ => True)) (by (with_reducible repeat (first | apply Kd.R_alloc | apply Kd.R_drewN | apply Kd.R_drew)); exact Kd.R_mono HO210.out (fun _ hk => ⟨trivial, hk⟩)) hg hat); have n1_ := Aside0.mk (hb); have n2_ := Aside0.mk (ho); clear HO210; clear HB; clear HO_11; have HO210 := n0_; have HB := n1_; have HO214 := n2_; clear n0_ n1_ n2_; clear ho hb hg hat))
                              (first | go_roundg k2 | (simp only [add_plain] at *; go_roundg k2))
                              case measure => have := HJ7.out; have := HK2.out; omega
                              case rel => exact ⟨(y208), (y212), (wrap64 (x12_2 + 1)), (by first | rfl | (simp; done) | (simp [*]; done)), H', ⟨by have := HJ7.out; have := HK2.out; omega⟩, ⟨by (with_reducible repeat (first | apply Kd.R_alloc | apply Kd.R_drewN | apply Kd.R_drew)); exact Kd.R_mono HO210.out (fun _ hk => hk.2)⟩, ⟨by (with_reducible repeat (first | apply Kd.R_alloc | apply Kd.R_drewN | apply Kd.R_drew)); exact HO214.out⟩, ⟨by repeat (first | (with_reducible first | exact HB.out | apply below_alloc | apply pw_below_drewN | apply below_drew1) | exact HB.out)⟩⟩
                            · rw [if_neg c25] at H
                              exact absurd H (by simp)
                          · rw [if_neg c24] at H
                            exact absurd H (by simp)
                        · rw [if_neg c23] at H
                          exact absurd H (by simp)
                    · rw [if_neg c20] at H
                      exact absurd H (by simp)
                  · rw [if_neg c17] at H
                    exact absurd H (by simp)
                · rw [if_neg c16] at H
                  exact absurd H (by simp)
              · rw [if_neg c15] at H
                have c15b0 : decide (x12_2 < (l0.length : Int)) = false := decide_eq_false c15
                clear c15
                replace H := Option.bind_eq_some_iff.mp H
                obtain ⟨⟨t215, t216⟩, A290, H⟩ := H
                replace H : ((kern2_Transform.f k2 l1 a3).bind fun bt219 => ((kern2_Transform.f k2 x10_2 a3).bind fun bt223 => ((kern2_Transform.f k2 x11_2 a3).bind fun bt227 => (if t216 = 0 then (if bt219.2 = 0 then (if bt223.2 = 0 then (if bt227.2 = 0 then (if (t215.length : Int) = (l0.length : Int) then (if (bt219.1.length : Int) = (l0.length : Int) then (if (bt223.1.length : Int) = (l0.length : Int) then (abacistlaw09_HalvesLinear.j2 k2 l0 a2 a3 t203 t215 bt219.1 bt223.1 bt227.1 ((bt227.1.length : Int) != (l0.length : Int))) else (abacistlaw09_HalvesLinear.j2 k2 l0 a2 a3 t203 t215 bt219.1 bt223.1 bt227.1 true)) else (abacistlaw09_HalvesLinear.j2 k2 l0 a2 a3 t203 t215 bt219.1 bt223.1 bt227.1 true)) else (abacistlaw09_HalvesLinear.j2 k2 l0 a2 a3 t203 t215 bt219.1 bt223.1 bt227.1 true)) else (abacistlaw09_HalvesLinear.j2 k2 l0 a2 a3 t203 t215 bt219.1 bt223.1 bt227.1 true)) else (abacistlaw09_HalvesLinear.j2 k2 l0 a2 a3 t203 t215 bt219.1 bt223.1 bt227.1 true)) else (abacistlaw09_HalvesLinear.j2 k2 l0 a2 a3 t203 t215 bt219.1 bt223.1 bt227.1 true)) else (abacistlaw09_HalvesLinear.j2 k2 l0 a2 a3 t203 t215 bt219.1 bt223.1 bt227.1 true))))) = some r := H
                have A29 := Aside0.mk A290
                clear A290
                replace H := Option.bind_eq_some_iff.mp H
                obtain ⟨⟨t219, t220⟩, A300, H⟩ := H
                replace H : ((kern2_Transform.f k2 x10_2 a3).bind fun bt223 => ((kern2_Transform.f k2 x11_2 a3).bind fun bt227 => (if t216 = 0 then (if t220 = 0 then (if bt223.2 = 0 then (if bt227.2 = 0 then (if (t215.length : Int) = (l0.length : Int) then (if (t219.length : Int) = (l0.length : Int) then (if (bt223.1.length : Int) = (l0.length : Int) then (abacistlaw09_HalvesLinear.j2 k2 l0 a2 a3 t203 t215 t219 bt223.1 bt227.1 ((bt227.1.length : Int) != (l0.length : Int))) else (abacistlaw09_HalvesLinear.j2 k2 l0 a2 a3 t203 t215 t219 bt223.1 bt227.1 true)) else (abacistlaw09_HalvesLinear.j2 k2 l0 a2 a3 t203 t215 t219 bt223.1 bt227.1 true)) else (abacistlaw09_HalvesLinear.j2 k2 l0 a2 a3 t203 t215 t219 bt223.1 bt227.1 true)) else (abacistlaw09_HalvesLinear.j2 k2 l0 a2 a3 t203 t215 t219 bt223.1 bt227.1 true)) else (abacistlaw09_HalvesLinear.j2 k2 l0 a2 a3 t203 t215 t219 bt223.1 bt227.1 true)) else (abacistlaw09_HalvesLinear.j2 k2 l0 a2 a3 t203 t215 t219 bt223.1 bt227.1 true)) else (abacistlaw09_HalvesLinear.j2 k2 l0 a2 a3 t203 t215 t219 bt223.1 bt227.1 true)))) = some r := H
                have A30 := Aside0.mk A300
                clear A300
                replace H := Option.bind_eq_some_iff.mp H
                obtain ⟨⟨t223, t224⟩, A310, H⟩ := H
                replace H : ((kern2_Transform.f k2 x11_2 a3).bind fun bt227 => (if t216 = 0 then (if t220 = 0 then (if t224 = 0 then (if bt227.2 = 0 then (if (t215.length : Int) = (l0.length : Int) then (if (t219.length : Int) = (l0.length : Int) then (if (t223.length : Int) = (l0.length : Int) then (abacistlaw09_HalvesLinear.j2 k2 l0 a2 a3 t203 t215 t219 t223 bt227.1 ((bt227.1.length : Int) != (l0.length : Int))) else (abacistlaw09_HalvesLinear.j2 k2 l0 a2 a3 t203 t215 t219 t223 bt227.1 true)) else (abacistlaw09_HalvesLinear.j2 k2 l0 a2 a3 t203 t215 t219 t223 bt227.1 true)) else (abacistlaw09_HalvesLinear.j2 k2 l0 a2 a3 t203 t215 t219 t223 bt227.1 true)) else (abacistlaw09_HalvesLinear.j2 k2 l0 a2 a3 t203 t215 t219 t223 bt227.1 true)) else (abacistlaw09_HalvesLinear.j2 k2 l0 a2 a3 t203 t215 t219 t223 bt227.1 true)) else (abacistlaw09_HalvesLinear.j2 k2 l0 a2 a3 t203 t215 t219 t223 bt227.1 true)) else (abacistlaw09_HalvesLinear.j2 k2 l0 a2 a3 t203 t215 t219 t223 bt227.1 true))) = some r := H
                have A31 := Aside0.mk A310
                clear A310
                replace H := Option.bind_eq_some_iff.mp H
                obtain ⟨⟨t227, t228⟩, A320, H⟩ := H
                replace H : (if t216 = 0 then (if t220 = 0 then (if t224 = 0 then (if t228 = 0 then (if (t215.length : Int) = (l0.length : Int) then (if (t219.length : Int) = (l0.length : Int) then (if (t223.length : Int) = (l0.length : Int) then (abacistlaw09_HalvesLinear.j2 k2 l0 a2 a3 t203 t215 t219 t223 t227 ((t227.length : Int) != (l0.length : Int))) else (abacistlaw09_HalvesLinear.j2 k2 l0 a2 a3 t203 t215 t219 t223 t227 true)) else (abacistlaw09_HalvesLinear.j2 k2 l0 a2 a3 t203 t215 t219 t223 t227 true)) else (abacistlaw09_HalvesLinear.j2 k2 l0 a2 a3 t203 t215 t219 t223 t227 true)) else (abacistlaw09_HalvesLinear.j2 k2 l0 a2 a3 t203 t215 t219 t223 t227 true)) else (abacistlaw09_HalvesLinear.j2 k2 l0 a2 a3 t203 t215 t219 t223 t227 true)) else (abacistlaw09_HalvesLinear.j2 k2 l0 a2 a3 t203 t215 t219 t223 t227 true)) else (abacistlaw09_HalvesLinear.j2 k2 l0 a2 a3 t203 t215 t219 t223 t227 true)) = some r := H
                have A32 := Aside0.mk A320
                clear A320
                have HC33 := Aside0.mk H
                clear H
                go_upto_region 16 with (first | ((with_reducible refine gate_callee (f := 11) rfl ?_); refine goesL_ (some 88) rfl rfl Tryd.func11 (by kernel_rfl) rfl #[.slice A0 l0.length c0, .int .i64 a3] rfl (by (try simp only [List.map_toArray, List.map_cons, List.map_nil]); first | done | rfl | (simp only [List.length_drop, List.length_take]; rfl)) ?_; (with_reducible refine (kern2_Transform.calls k2 _ _ l0 a3 t215 t216 _ ?side1 ?side2 ?sideG A29.out).mono ?_); (case sideG => first | exact hG | exact ⟨hG.out⟩ | exact ⟨hG.out.below (by repeat (first | (with_reducible first | exact HB.out | apply below_alloc | apply pw_below_drewN | apply below_drew1) | exact HB.out))⟩); (case side1 => repeat (first | exact (Kd.C_below HR0.out HB.out) | (with_reducible refine Kd.C_alloc ?_ _) | (with_reducible refine Kd.C_drewN ?_ _) | (with_reducible refine Kd.C_drew ?_))); (case side2 => exact HC0.out); rintro e w34 ⟨v217, rfl, ho0, hb⟩; refine ⟨_, rfl, ?_⟩; have n0_ := Aside0.mk (Kd.R_elder' (by (with_reducible repeat (first | apply Kd.R_alloc | apply Kd.R_drewN | apply Kd.R_drew)); exact HO_10.out) (Kd.R_base ho0) hb); have n1_ := Aside0.mk (Kd.R_elder' (by (with_reducible repeat (first | apply Kd.R_alloc | apply Kd.R_drewN | apply Kd.R_drew)); exact HO_11.out) (Kd.R_base ho0) hb); have n2_ := Aside0.mk (Kd.R_lower (Kd.R_new' (Kd.R_new' ho0 (Kd.R_lt (by (with_reducible repeat (first | apply Kd.R_alloc | apply Kd.R_drewN | apply Kd.R_drew)); exact HO_10.out))) (Kd.R_lt (by (with_reducible repeat (first | apply Kd.R_alloc | apply Kd.R_drewN | apply Kd.R_drew)); exact HO_11.out))) (below_size (by repeat (first | (with_reducible first | exact HB.out | apply below_alloc | apply pw_below_drewN | apply below_drew1) | exact HB.out)))); have n3_ := Aside0.mk (below_step (by repeat (first | (with_reducible first | exact HB.out | apply below_alloc | apply pw_below_drewN | apply below_drew1) | exact HB.out)) hb); clear HO_10; clear HO_11; clear HB; have HO_10 := n0_; have HO_11 := n1_; have HO218 := n2_; have HB := n3_; clear n0_ n1_ n2_ n3_; (try clear hb); (try clear hb2); (try clear hk); (try clear hi); (try clear ho0)) | (go_at_call 11; (with_reducible refine (kern2_Transform.calls k2 _ _ l0 a3 t215 t216 _ ?side1 ?side2 ?sideG A29.out).mono ?_); (case sideG => first | exact hG | exact ⟨hG.out⟩ | exact ⟨hG.out.below (by repeat (first | (with_reducible first | exact HB.out | apply below_alloc | apply pw_below_drewN | apply below_drew1) | exact HB.out))⟩); (case side1 => repeat (first | exact (Kd.C_below HR0.out HB.out) | (with_reducible refine Kd.C_alloc ?_ _) | (with_reducible refine Kd.C_drewN ?_ _) | (with_reducible refine Kd.C_drew ?_))); (case side2 => exact HC0.out); rintro e w34 ⟨v217, rfl, ho0, hb⟩; have n0_ := Aside0.mk (Kd.R_elder' (by (with_reducible repeat (first | apply Kd.R_alloc | apply Kd.R_drewN | apply Kd.R_drew)); exact HO_10.out) (Kd.R_base ho0) hb); have n1_ := Aside0.mk (Kd.R_elder' (by (with_reducible repeat (first | apply Kd.R_alloc | apply Kd.R_drewN | apply Kd.R_drew)); exact HO_11.out) (Kd.R_base ho0) hb); have n2_ := Aside0.mk (Kd.R_lower (Kd.R_new' (Kd.R_new' ho0 (Kd.R_lt (by (with_reducible repeat (first | apply Kd.R_alloc | apply Kd.R_drewN | apply Kd.R_drew)); exact HO_10.out))) (Kd.R_lt (by (with_reducible repeat (first | apply Kd.R_alloc | apply Kd.R_drewN | apply Kd.R_drew)); exact HO_11.out))) (below_size (by repeat (first | (with_reducible first | exact HB.out | apply below_alloc | apply pw_below_drewN | apply below_drew1) | exact HB.out)))); have n3_ := Aside0.mk (below_step (by repeat (first | (with_reducible first | exact HB.out | apply below_alloc | apply pw_below_drewN | apply below_drew1) | exact HB.out)) hb); clear HO_10; clear HO_11; clear HB; have HO_10 := n0_; have HO_11 := n1_; have HO218 := n2_; have HB := n3_; clear n0_ n1_ n2_ n3_; (try clear hb); (try clear hb2); (try clear hk); (try clear hi); (try clear ho0)) | ((with_reducible refine gate_callee (f := 11) rfl ?_); refine goesL_ (some 94) rfl rfl Tryd.func11 (by kernel_rfl) rfl #[.slice A1 l1.length c1, .int .i64 a3] rfl (by (try simp only [List.map_toArray, List.map_cons, List.map_nil]); first | done | rfl | (simp only [List.length_drop, List.length_take]; rfl)) ?_; (with_reducible refine (kern2_Transform.calls k2 _ _ l1 a3 t219 t220 _ ?side1 ?side2 ?sideG A30.out).mono ?_); (case sideG => first | exact hG | exact ⟨hG.out⟩ | exact ⟨hG.out.below (by repeat (first | (with_reducible first | exact HB.out | apply below_alloc | apply pw_below_drewN | apply below_drew1) | exact HB.out))⟩); (case side1 => repeat (first | exact (Kd.C_below HR1.out HB.out) | (with_reducible refine Kd.C_alloc ?_ _) | (with_reducible refine Kd.C_drewN ?_ _) | (with_reducible refine Kd.C_drew ?_))); (case side2 => exact HC1.out); rintro e w35 ⟨v221, rfl, ho0, hb⟩; refine ⟨_, rfl, ?_⟩; have n0_ := Aside0.mk (Kd.R_elder' (by (with_reducible repeat (first | apply Kd.R_alloc | apply Kd.R_drewN | apply Kd.R_drew)); exact HO_10.out) (Kd.R_base ho0) hb); have n1_ := Aside0.mk (Kd.R_elder' (by (with_reducible repeat (first | apply Kd.R_alloc | apply Kd.R_drewN | apply Kd.R_drew)); exact HO_11.out) (Kd.R_base ho0) hb); have n2_ := Aside0.mk (Kd.R_elder' (by (with_reducible repeat (first | apply Kd.R_alloc | apply Kd.R_drewN | apply Kd.R_drew)); exact HO218.out) (Kd.R_base ho0) hb); have n3_ := Aside0.mk (Kd.R_lower (Kd.R_new' (Kd.R_new' (Kd.R_new' ho0 (Kd.R_lt (by (with_reducible repeat (first | apply Kd.R_alloc | apply Kd.R_drewN | apply Kd.R_drew)); exact HO_10.out))) (Kd.R_lt (by (with_reducible repeat (first | apply Kd.R_alloc | apply Kd.R_drewN | apply Kd.R_drew)); exact HO_11.out))) (Kd.R_lt (by (with_reducible repeat (first | apply Kd.R_alloc | apply Kd.R_drewN | apply Kd.R_drew)); exact HO218.out))) (below_size (by repeat (first | (with_reducible first | exact HB.out | apply below_alloc | apply pw_below_drewN | apply below_drew1) | exact HB.out)))); have n4_ := Aside0.mk (below_step (by repeat (first | (with_reducible first | exact HB.out | apply below_alloc | apply pw_below_drewN | apply below_drew1) | exact HB.out)) hb); clear HO_10; clear HO_11; clear HO218; clear HB; have HO_10 := n0_; have HO_11 := n1_; have HO218 := n2_; have HO222 := n3_; have HB := n4_; clear n0_ n1_ n2_ n3_ n4_; (try clear hb); (try clear hb2); (try clear hk); (try clear hi); (try clear ho0); obtain ⟨Ao36, co36, eo36⟩ := Kd.R_slice HO_10.out; subst eo36) | (go_at_call 11; (with_reducible refine (kern2_Transform.calls k2 _ _ l1 a3 t219 t220 _ ?side1 ?side2 ?sideG A30.out).mono ?_); (case sideG => first | exact hG | exact ⟨hG.out⟩ | exact ⟨hG.out.below (by repeat (first | (with_reducible first | exact HB.out | apply below_alloc | apply pw_below_drewN | apply below_drew1) | exact HB.out))⟩); (case side1 => repeat (first | exact (Kd.C_below HR1.out HB.out) | (with_reducible refine Kd.C_alloc ?_ _) | (with_reducible refine Kd.C_drewN ?_ _) | (with_reducible refine Kd.C_drew ?_))); (case side2 => exact HC1.out); rintro e w35 ⟨v221, rfl, ho0, hb⟩; have n0_ := Aside0.mk (Kd.R_elder' (by (with_reducible repeat (first | apply Kd.R_alloc | apply Kd.R_drewN | apply Kd.R_drew)); exact HO_10.out) (Kd.R_base ho0) hb); have n1_ := Aside0.mk (Kd.R_elder' (by (with_reducible repeat (first | apply Kd.R_alloc | apply Kd.R_drewN | apply Kd.R_drew)); exact HO_11.out) (Kd.R_base ho0) hb); have n2_ := Aside0.mk (Kd.R_elder' (by (with_reducible repeat (first | apply Kd.R_alloc | apply Kd.R_drewN | apply Kd.R_drew)); exact HO218.out) (Kd.R_base ho0) hb); have n3_ := Aside0.mk (Kd.R_lower (Kd.R_new' (Kd.R_new' (Kd.R_new' ho0 (Kd.R_lt (by (with_reducible repeat (first | apply Kd.R_alloc | apply Kd.R_drewN | apply Kd.R_drew)); exact HO_10.out))) (Kd.R_lt (by (with_reducible repeat (first | apply Kd.R_alloc | apply Kd.R_drewN | apply Kd.R_drew)); exact HO_11.out))) (Kd.R_lt (by (with_reducible repeat (first | apply Kd.R_alloc | apply Kd.R_drewN | apply Kd.R_drew)); exact HO218.out))) (below_size (by repeat (first | (with_reducible first | exact HB.out | apply below_alloc | apply pw_below_drewN | apply below_drew1) | exact HB.out)))); have n4_ := Aside0.mk (below_step (by repeat (first | (with_reducible first | exact HB.out | apply below_alloc | apply pw_below_drewN | apply below_drew1) | exact HB.out)) hb); clear HO_10; clear HO_11; clear HO218; clear HB; have HO_10 := n0_; have HO_11 := n1_; have HO218 := n2_; have HO222 := n3_; have HB := n4_; clear n0_ n1_ n2_ n3_ n4_; (try clear hb); (try clear hb2); (try clear hk); (try clear hi); (try clear ho0); obtain ⟨Ao36, co36, eo36⟩ := Kd.R_slice HO_10.out; subst eo36) | ((with_reducible refine gate_callee (f := 11) rfl ?_); refine goesL_ (some 100) rfl rfl Tryd.func11 (by kernel_rfl) rfl #[.slice Ao36 x10_2.length co36, .int .i64 a3] rfl (by (try simp only [List.map_toArray, List.map_cons, List.map_nil]); first | done | rfl | (simp only [List.length_drop, List.length_take]; rfl)) ?_; (with_reducible refine (kern2_Transform.calls k2 _ _ x10_2 a3 t223 t224 _ ?side1 ?side2 ?sideG A31.out).mono ?_); (case sideG => first | exact hG | exact ⟨hG.out⟩ | exact ⟨hG.out.below (by repeat (first | (with_reducible first | exact HB.out | apply below_alloc | apply pw_below_drewN | apply below_drew1) | exact HB.out))⟩); (case side1 => repeat (first | exact (Kd.R_reads' HO_10.out).2.2 | (with_reducible refine Kd.C_alloc ?_ _) | (with_reducible refine Kd.C_drewN ?_ _) | (with_reducible refine Kd.C_drew ?_))); (case side2 => exact (Kd.R_reads' HO_10.out).2.1); rintro e w37 ⟨v225, rfl, ho0, hb⟩; refine ⟨_, rfl, ?_⟩; have n0_ := Aside0.mk (Kd.R_elder' (by (with_reducible repeat (first | apply Kd.R_alloc | apply Kd.R_drewN | apply Kd.R_drew)); exact HO_10.out) (Kd.R_base ho0) hb); have n1_ := Aside0.mk (Kd.R_elder' (by (with_reducible repeat (first | apply Kd.R_alloc | apply Kd.R_drewN | apply Kd.R_drew)); exact HO_11.out) (Kd.R_base ho0) hb); have n2_ := Aside0.mk (Kd.R_elder' (by (with_reducible repeat (first | apply Kd.R_alloc | apply Kd.R_drewN | apply Kd.R_drew)); exact HO218.out) (Kd.R_base ho0) hb); have n3_ := Aside0.mk (Kd.R_elder' (by (with_reducible repeat (first | apply Kd.R_alloc | apply Kd.R_drewN | apply Kd.R_drew)); exact HO222.out) (Kd.R_base ho0) hb); have n4_ := Aside0.mk (Kd.R_lower (Kd.R_new' (Kd.R_new' (Kd.R_new' (Kd.R_new' ho0 (Kd.R_lt (by (with_reducible repeat (first | apply Kd.R_alloc | apply Kd.R_drewN | apply Kd.R_drew)); exact HO_10.out))) (Kd.R_lt (by (with_reducible repeat (first | apply Kd.R_alloc | apply Kd.R_drewN | apply Kd.R_drew)); exact HO_11.out))) (Kd.R_lt (by (with_reducible repeat (first | apply Kd.R_alloc | apply Kd.R_drewN | apply Kd.R_drew)); exact HO218.out))) (Kd.R_lt (by (with_reducible repeat (first | apply Kd.R_alloc | apply Kd.R_drewN | apply Kd.R_drew)); exact HO222.out))) (below_size (by repeat (first | (with_reducible first | exact HB.out | apply below_alloc | apply pw_below_drewN | apply below_drew1) | exact HB.out)))); have n5_ := Aside0.mk (below_step (by repeat (first | (with_reducible first | exact HB.out | apply below_alloc | apply pw_below_drewN | apply below_drew1) | exact HB.out)) hb); clear HO_10; clear HO_11; clear HO218; clear HO222; clear HB; have HO_10 := n0_; have HO_11 := n1_; have HO218 := n2_; have HO222 := n3_; have HO226 := n4_; have HB := n5_; clear n0_ n1_ n2_ n3_ n4_ n5_; (try clear hb); (try clear hb2); (try clear hk); (try clear hi); (try clear ho0); obtain ⟨Ao38, co38, eo38⟩ := Kd.R_slice HO_11.out; subst eo38) | (go_at_call 11; (with_reducible refine (kern2_Transform.calls k2 _ _ x10_2 a3 t223 t224 _ ?side1 ?side2 ?sideG A31.out).mono ?_); (case sideG => first | exact hG | exact ⟨hG.out⟩ | exact ⟨hG.out.below (by repeat (first | (with_reducible first | exact HB.out | apply below_alloc | apply pw_below_drewN | apply below_drew1) | exact HB.out))⟩); (case side1 => repeat (first | exact (Kd.R_reads' HO_10.out).2.2 | (with_reducible refine Kd.C_alloc ?_ _) | (with_reducible refine Kd.C_drewN ?_ _) | (with_reducible refine Kd.C_drew ?_))); (case side2 => exact (Kd.R_reads' HO_10.out).2.1); rintro e w37 ⟨v225, rfl, ho0, hb⟩; have n0_ := Aside0.mk (Kd.R_elder' (by (with_reducible repeat (first | apply Kd.R_alloc | apply Kd.R_drewN | apply Kd.R_drew)); exact HO_10.out) (Kd.R_base ho0) hb); have n1_ := Aside0.mk (Kd.R_elder' (by (with_reducible repeat (first | apply Kd.R_alloc | apply Kd.R_drewN | apply Kd.R_drew)); exact HO_11.out) (Kd.R_base ho0) hb); have n2_ := Aside0.mk (Kd.R_elder' (by (with_reducible repeat (first | apply Kd.R_alloc | apply Kd.R_drewN | apply Kd.R_drew)); exact HO218.out) (Kd.R_base ho0) hb); have n3_ := Aside0.mk (Kd.R_elder' (by (with_reducible repeat (first | apply Kd.R_alloc | apply Kd.R_drewN | apply Kd.R_drew)); exact HO222.out) (Kd.R_base ho0) hb); have n4_ := Aside0.mk (Kd.R_lower (Kd.R_new' (Kd.R_new' (Kd.R_new' (Kd.R_new' ho0 (Kd.R_lt (by (with_reducible repeat (first | apply Kd.R_alloc | apply Kd.R_drewN | apply Kd.R_drew)); exact HO_10.out))) (Kd.R_lt (by (with_reducible repeat (first | apply Kd.R_alloc | apply Kd.R_drewN | apply Kd.R_drew)); exact HO_11.out))) (Kd.R_lt (by (with_reducible repeat (first | apply Kd.R_alloc | apply Kd.R_drewN | apply Kd.R_drew)); exact HO218.out))) (Kd.R_lt (by (with_reducible repeat (first | apply Kd.R_alloc | apply Kd.R_drewN | apply Kd.R_drew)); exact HO222.out))) (below_size (by repeat (first | (with_reducible first | exact HB.out | apply below_alloc | apply pw_below_drewN | apply below_drew1) | exact HB.out)))); have n5_ := Aside0.mk (below_step (by repeat (first | (with_reducible first | exact HB.out | apply below_alloc | apply pw_below_drewN | apply below_drew1) | exact HB.out)) hb); clear HO_10; clear HO_11; clear HO218; clear HO222; clear HB; have HO_10 := n0_; have HO_11 := n1_; have HO218 := n2_; have HO222 := n3_; have HO226 := n4_; have HB := n5_; clear n0_ n1_ n2_ n3_ n4_ n5_; (try clear hb); (try clear hb2); (try clear hk); (try clear hi); (try clear ho0); obtain ⟨Ao38, co38, eo38⟩ := Kd.R_slice HO_11.out; subst eo38) | ((with_reducible refine gate_callee (f := 11) rfl ?_); refine goesL_ (some 106) rfl rfl Tryd.func11 (by kernel_rfl) rfl #[.slice Ao38 x11_2.length co38, .int .i64 a3] rfl (by (try simp only [List.map_toArray, List.map_cons, List.map_nil]); first | done | rfl | (simp only [List.length_drop, List.length_take]; rfl)) ?_; (with_reducible refine (kern2_Transform.calls k2 _ _ x11_2 a3 t227 t228 _ ?side1 ?side2 ?sideG A32.out).mono ?_); (case sideG => first | exact hG | exact ⟨hG.out⟩ | exact ⟨hG.out.below (by repeat (first | (with_reducible first | exact HB.out | apply below_alloc | apply pw_below_drewN | apply below_drew1) | exact HB.out))⟩); (case side1 => repeat (first | exact (Kd.R_reads' HO_11.out).2.2 | (with_reducible refine Kd.C_alloc ?_ _) | (with_reducible refine Kd.C_drewN ?_ _) | (with_reducible refine Kd.C_drew ?_))); (case side2 => exact (Kd.R_reads' HO_11.out).2.1); rintro e w39 ⟨v229, rfl, ho0, hb⟩; refine ⟨_, rfl, ?_⟩; have n0_ := Aside0.mk (Kd.R_elder' (by (with_reducible repeat (first | apply Kd.R_alloc | apply Kd.R_drewN | apply Kd.R_drew)); exact HO_10.out) (Kd.R_base ho0) hb); have n1_ := Aside0.mk (Kd.R_elder' (by (with_reducible repeat (first | apply Kd.R_alloc | apply Kd.R_drewN | apply Kd.R_drew)); exact HO_11.out) (Kd.R_base ho0) hb); have n2_ := Aside0.mk (Kd.R_elder' (by (with_reducible repeat (first | apply Kd.R_alloc | apply Kd.R_drewN | apply Kd.R_drew)); exact HO218.out) (Kd.R_base ho0) hb); have n3_ := Aside0.mk (Kd.R_elder' (by (with_reducible repeat (first | apply Kd.R_alloc | apply Kd.R_drewN | apply Kd.R_drew)); exact HO222.out) (Kd.R_base ho0) hb); have n4_ := Aside0.mk (Kd.R_elder' (by (with_reducible repeat (first | apply Kd.R_alloc | apply Kd.R_drewN | apply Kd.R_drew)); exact HO226.out) (Kd.R_base ho0) hb); have n5_ := Aside0.mk (Kd.R_lower (Kd.R_new' (Kd.R_new' (Kd.R_new' (Kd.R_new' (Kd.R_new' ho0 (Kd.R_lt (by (with_reducible repeat (first | apply Kd.R_alloc | apply Kd.R_drewN | apply Kd.R_drew)); exact HO_10.out))) (Kd.R_lt (by (with_reducible repeat (first | apply Kd.R_alloc | apply Kd.R_drewN | apply Kd.R_drew)); exact HO_11.out))) (Kd.R_lt (by (with_reducible repeat (first | apply Kd.R_alloc | apply Kd.R_drewN | apply Kd.R_drew)); exact HO218.out))) (Kd.R_lt (by (with_reducible repeat (first | apply Kd.R_alloc | apply Kd.R_drewN | apply Kd.R_drew)); exact HO222.out))) (Kd.R_lt (by (with_reducible repeat (first | apply Kd.R_alloc | apply Kd.R_drewN | apply Kd.R_drew)); exact HO226.out))) (below_size (by repeat (first | (with_reducible first | exact HB.out | apply below_alloc | apply pw_below_drewN | apply below_drew1) | exact HB.out)))); have n6_ := Aside0.mk (below_step (by repeat (first | (with_reducible first | exact HB.out | apply below_alloc | apply pw_below_drewN | apply below_drew1) | exact HB.out)) hb); clear HO_10; clear HO_11; clear HO218; clear HO222; clear HO226; clear HB; have HO_10 := n0_; have HO_11 := n1_; have HO218 := n2_; have HO222 := n3_; have HO226 := n4_; have HO230 := n5_; have HB := n6_; clear n0_ n1_ n2_ n3_ n4_ n5_ n6_; (try clear hb); (try clear hb2); (try clear hk); (try clear hi); (try clear ho0)) | (go_at_call 11; (with_reducible refine (kern2_Transform.calls k2 _ _ x11_2 a3 t227 t228 _ ?side1 ?side2 ?sideG A32.out).mono ?_); (case sideG => first | exact hG | exact ⟨hG.out⟩ | exact ⟨hG.out.below (by repeat (first | (with_reducible first | exact HB.out | apply below_alloc | apply pw_below_drewN | apply below_drew1) | exact HB.out))⟩); (case side1 => repeat (first | exact (Kd.R_reads' HO_11.out).2.2 | (with_reducible refine Kd.C_alloc ?_ _) | (with_reducible refine Kd.C_drewN ?_ _) | (with_reducible refine Kd.C_drew ?_))); (case side2 => exact (Kd.R_reads' HO_11.out).2.1); rintro e w39 ⟨v229, rfl, ho0, hb⟩; have n0_ := Aside0.mk (Kd.R_elder' (by (with_reducible repeat (first | apply Kd.R_alloc | apply Kd.R_drewN | apply Kd.R_drew)); exact HO_10.out) (Kd.R_base ho0) hb); have n1_ := Aside0.mk (Kd.R_elder' (by (with_reducible repeat (first | apply Kd.R_alloc | apply Kd.R_drewN | apply Kd.R_drew)); exact HO_11.out) (Kd.R_base ho0) hb); have n2_ := Aside0.mk (Kd.R_elder' (by (with_reducible repeat (first | apply Kd.R_alloc | apply Kd.R_drewN | apply Kd.R_drew)); exact HO218.out) (Kd.R_base ho0) hb); have n3_ := Aside0.mk (Kd.R_elder' (by (with_reducible repeat (first | apply Kd.R_alloc | apply Kd.R_drewN | apply Kd.R_drew)); exact HO222.out) (Kd.R_base ho0) hb); have n4_ := Aside0.mk (Kd.R_elder' (by (with_reducible repeat (first | apply Kd.R_alloc | apply Kd.R_drewN | apply Kd.R_drew)); exact HO226.out) (Kd.R_base ho0) hb); have n5_ := Aside0.mk (Kd.R_lower (Kd.R_new' (Kd.R_new' (Kd.R_new' (Kd.R_new' (Kd.R_new' ho0 (Kd.R_lt (by (with_reducible repeat (first | apply Kd.R_alloc | apply Kd.R_drewN | apply Kd.R_drew)); exact HO_10.out))) (Kd.R_lt (by (with_reducible repeat (first | apply Kd.R_alloc | apply Kd.R_drewN | apply Kd.R_drew)); exact HO_11.out))) (Kd.R_lt (by (with_reducible repeat (first | apply Kd.R_alloc | apply Kd.R_drewN | apply Kd.R_drew)); exact HO218.out))) (Kd.R_lt (by (with_reducible repeat (first | apply Kd.R_alloc | apply Kd.R_drewN | apply Kd.R_drew)); exact HO222.out))) (Kd.R_lt (by (with_reducible repeat (first | apply Kd.R_alloc | apply Kd.R_drewN | apply Kd.R_drew)); exact HO226.out))) (below_size (by repeat (first | (with_reducible first | exact HB.out | apply below_alloc | apply pw_below_drewN | apply below_drew1) | exact HB.out)))); have n6_ := Aside0.mk (below_step (by repeat (first | (with_reducible first | exact HB.out | apply below_alloc | apply pw_below_drewN | apply below_drew1) | exact HB.out)) hb); clear HO_10; clear HO_11; clear HO218; clear HO222; clear HO226; clear HB; have HO_10 := n0_; have HO_11 := n1_; have HO218 := n2_; have HO222 := n3_; have HO226 := n4_; have HO230 := n5_; have HB := n6_; clear n0_ n1_ n2_ n3_ n4_ n5_ n6_; (try clear hb); (try clear hb2); (try clear hk); (try clear hi); (try clear ho0)))
                (try simp only [Act.put, List.setIfInBounds_toArray, List.set_cons_zero, List.set_cons_succ])
                go_cut [150] (fun v150 wc => ∃ (kq : Nat) (x150_32 : Bool), v150 = .bool x150_32 ∧ Aside0 (abacistlaw09_HalvesLinear.j2 kq l0 a2 a3 t203 t215 t219 t223 t227 x150_32 = some r) ∧ Aside0 (kq ≤ k2) ∧ Aside0 (Kd.R (Kd.int .u64) 32 wc w.heap.size (fun k_ => some k_ ≠ (v221 : Value).ownBlock ∧ some k_ ≠ (v225 : Value).ownBlock ∧ some k_ ≠ (v229 : Value).ownBlock) v217 t215) ∧ Aside0 (Kd.R (Kd.int .u64) 32 wc w.heap.size (fun k_ => some k_ ≠ (v217 : Value).ownBlock ∧ some k_ ≠ (v225 : Value).ownBlock ∧ some k_ ≠ (v229 : Value).ownBlock) v221 t219) ∧ Aside0 (Kd.R (Kd.int .u64) 32 wc w.heap.size (fun k_ => some k_ ≠ (v217 : Value).ownBlock ∧ some k_ ≠ (v221 : Value).ownBlock ∧ some k_ ≠ (v229 : Value).ownBlock) v225 t223) ∧ Aside0 (Kd.R (Kd.int .u64) 32 wc w.heap.size (fun k_ => some k_ ≠ (v217 : Value).ownBlock ∧ some k_ ≠ (v221 : Value).ownBlock ∧ some k_ ≠ (v225 : Value).ownBlock) v229 t227) ∧ Aside0 (Below w.heap.size w wc))
                case first =>
                  have H := HC33.out
                  clear HC33
                  by_cases c40 : t216 = 0
                  · rw [if_pos c40] at H
                    have c40b0 : (t216 == 0) = true := beq_iff_eq.mpr c40
                    have c40b1 : (t216 != 0) = false := bne_eq_false_iff_eq.mpr c40
                    clear c40
                    (first | rw [c40b0] | (simp only [i64_w, i32_w]; rw [c40b0]) | skip)
                    by_cases c41 : t220 = 0
                    · rw [if_pos c41] at H
                      have c41b0 : (t220 == 0) = true := beq_iff_eq.mpr c41
                      have c41b1 : (t220 != 0) = false := bne_eq_false_iff_eq.mpr c41
                      clear c41
                      by_cases c42 : t224 = 0
                      · rw [if_pos c42] at H
                        have c42b0 : (t224 == 0) = true := beq_iff_eq.mpr c42
                        have c42b1 : (t224 != 0) = false := bne_eq_false_iff_eq.mpr c42
                        clear c42
                        by_cases c43 : t228 = 0
                        · rw [if_pos c43] at H
                          have c43b0 : (t228 == 0) = true := beq_iff_eq.mpr c43
                          have c43b1 : (t228 != 0) = false := bne_eq_false_iff_eq.mpr c43
                          clear c43
                          by_cases c44 : (t215.length : Int) = (l0.length : Int)
                          · rw [if_pos c44] at H
                            have c44b0 : ((t215.length : Int) == (l0.length : Int)) = true := beq_iff_eq.mpr c44
                            have c44b1 : ((t215.length : Int) != (l0.length : Int)) = false := bne_eq_false_iff_eq.mpr c44
                            have c44b2 : (t215.length == l0.length) = true := by first | simpa using c44 | (simp at c44 ⊢; omega)
                            clear c44
                            by_cases c45 : (t219.length : Int) = (l0.length : Int)
                            · rw [if_pos c45] at H
                              have c45b0 : ((t219.length : Int) == (l0.length : Int)) = true := beq_iff_eq.mpr c45
                              have c45b1 : ((t219.length : Int) != (l0.length : Int)) = false := bne_eq_false_iff_eq.mpr c45
                              have c45b2 : (t219.length == l0.length) = true := by first | simpa using c45 | (simp at c45 ⊢; omega)
                              clear c45
                              by_cases c46 : (t223.length : Int) = (l0.length : Int)
                              · rw [if_pos c46] at H
                                have c46b0 : ((t223.length : Int) == (l0.length : Int)) = true := beq_iff_eq.mpr c46
                                have c46b1 : ((t223.length : Int) != (l0.length : Int)) = false := bne_eq_false_iff_eq.mpr c46
                                have c46b2 : (t223.length == l0.length) = true := by first | simpa using c46 | (simp at c46 ⊢; omega)
                                clear c46
                                have H' := Aside0.mk H
                                clear H
                                obtain ⟨Ao47, co47, eo47⟩ := Kd.R_slice HO218.out
                                subst eo47
                                obtain ⟨Ao48, co48, eo48⟩ := Kd.R_slice HO222.out
                                subst eo48
                                obtain ⟨Ao49, co49, eo49⟩ := Kd.R_slice HO226.out
                                subst eo49
                                obtain ⟨Ao50, co50, eo50⟩ := Kd.R_slice HO230.out
                                subst eo50
                                go_wp2
                                go_meet
                                case rel => exact ⟨_, (((t227.length : Int) != (l0.length : Int))), (by first | rfl | (simp; done) | (simp [*]; done)), H', ⟨by have := HJ7.out; have := HK2.out; first | omega | exact Nat.le_refl _⟩, ⟨by (with_reducible repeat (first | apply Kd.R_alloc | apply Kd.R_drewN | apply Kd.R_drew)); exact Kd.R_mono HO218.out (fun _ hk => ⟨hk.1.1.2, ⟨hk.1.2, hk.2⟩⟩)⟩, ⟨by (with_reducible repeat (first | apply Kd.R_alloc | apply Kd.R_drewN | apply Kd.R_drew)); exact Kd.R_mono HO222.out (fun _ hk => ⟨hk.1.1.2, ⟨hk.1.2, hk.2⟩⟩)⟩, ⟨by (with_reducible repeat (first | apply Kd.R_alloc | apply Kd.R_drewN | apply Kd.R_drew)); exact Kd.R_mono HO226.out (fun _ hk => ⟨hk.1.1.2, ⟨hk.1.2, hk.2⟩⟩)⟩, ⟨by (with_reducible repeat (first | apply Kd.R_alloc | apply Kd.R_drewN | apply Kd.R_drew)); exact Kd.R_mono HO230.out (fun _ hk => ⟨hk.1.1.2, ⟨hk.1.2, hk.2⟩⟩)⟩, ⟨by repeat (first | (with_reducible first | exact HB.out | apply below_alloc | apply pw_below_drewN | apply below_drew1) | exact HB.out)⟩⟩
                              · rw [if_neg c46] at H
                                have c46b0 : ((t223.length : Int) == (l0.length : Int)) = false := beq_eq_false_iff_ne.mpr c46
                                have c46b1 : ((t223.length : Int) != (l0.length : Int)) = true := bne_iff_ne.mpr c46
                                have c46b2 : (t223.length == l0.length) = false := by first | simpa using c46 | (simp at c46 ⊢; omega)
                                have H' := Aside0.mk H
                                clear H
                                obtain ⟨Ao51, co51, eo51⟩ := Kd.R_slice HO218.out
                                subst eo51
                                obtain ⟨Ao52, co52, eo52⟩ := Kd.R_slice HO222.out
                                subst eo52
                                obtain ⟨Ao53, co53, eo53⟩ := Kd.R_slice HO226.out
                                subst eo53
                                go_wp2
                                go_meet
                                case rel => exact ⟨_, (true), (by first | rfl | (simp; done) | (simp [*]; done)), H', ⟨by have := HJ7.out; have := HK2.out; first | omega | exact Nat.le_refl _⟩, ⟨by (with_reducible repeat (first | apply Kd.R_alloc | apply Kd.R_drewN | apply Kd.R_drew)); exact Kd.R_mono HO218.out (fun _ hk => ⟨hk.1.1.2, ⟨hk.1.2, hk.2⟩⟩)⟩, ⟨by (with_reducible repeat (first | apply Kd.R_alloc | apply Kd.R_drewN | apply Kd.R_drew)); exact Kd.R_mono HO222.out (fun _ hk => ⟨hk.1.1.2, ⟨hk.1.2, hk.2⟩⟩)⟩, ⟨by (with_reducible repeat (first | apply Kd.R_alloc | apply Kd.R_drewN | apply Kd.R_drew)); exact Kd.R_mono HO226.out (fun _ hk => ⟨hk.1.1.2, ⟨hk.1.2, hk.2⟩⟩)⟩, ⟨by (with_reducible repeat (first | apply Kd.R_alloc | apply Kd.R_drewN | apply Kd.R_drew)); exact Kd.R_mono HO230.out (fun _ hk => ⟨hk.1.1.2, ⟨hk.1.2, hk.2⟩⟩)⟩, ⟨by repeat (first | (with_reducible first | exact HB.out | apply below_alloc | apply pw_below_drewN | apply below_drew1) | exact HB.out)⟩⟩
                            · rw [if_neg c45] at H
                              have c45b0 : ((t219.length : Int) == (l0.length : Int)) = false := beq_eq_false_iff_ne.mpr c45
                              have c45b1 : ((t219.length : Int) != (l0.length : Int)) = true := bne_iff_ne.mpr c45
                              have c45b2 : (t219.length == l0.length) = false := by first | simpa using c45 | (simp at c45 ⊢; omega)
                              have H' := Aside0.mk H
                              clear H
                              obtain ⟨Ao54, co54, eo54⟩ := Kd.R_slice HO218.out
                              subst eo54
                              obtain ⟨Ao55, co55, eo55⟩ := Kd.R_slice HO222.out
                              subst eo55
                              go_wp2
                              go_meet
                              case rel => exact ⟨_, (true), (by first | rfl | (simp; done) | (simp [*]; done)), H', ⟨by have := HJ7.out; have := HK2.out; first | omega | exact Nat.le_refl _⟩, ⟨by (with_reducible repeat (first | apply Kd.R_alloc | apply Kd.R_drewN | apply Kd.R_drew)); exact Kd.R_mono HO218.out (fun _ hk => ⟨hk.1.1.2, ⟨hk.1.2, hk.2⟩⟩)⟩, ⟨by (with_reducible repeat (first | apply Kd.R_alloc | apply Kd.R_drewN | apply Kd.R_drew)); exact Kd.R_mono HO222.out (fun _ hk => ⟨hk.1.1.2, ⟨hk.1.2, hk.2⟩⟩)⟩, ⟨by (with_reducible repeat (first | apply Kd.R_alloc | apply Kd.R_drewN | apply Kd.R_drew)); exact Kd.R_mono HO226.out (fun _ hk => ⟨hk.1.1.2, ⟨hk.1.2, hk.2⟩⟩)⟩, ⟨by (with_reducible repeat (first | apply Kd.R_alloc | apply Kd.R_drewN | apply Kd.R_drew)); exact Kd.R_mono HO230.out (fun _ hk => ⟨hk.1.1.2, ⟨hk.1.2, hk.2⟩⟩)⟩, ⟨by repeat (first | (with_reducible first | exact HB.out | apply below_alloc | apply pw_below_drewN | apply below_drew1) | exact HB.out)⟩⟩
                          · rw [if_neg c44] at H
                            have c44b0 : ((t215.length : Int) == (l0.length : Int)) = false := beq_eq_false_iff_ne.mpr c44
                            have c44b1 : ((t215.length : Int) != (l0.length : Int)) = true := bne_iff_ne.mpr c44
                            have c44b2 : (t215.length == l0.length) = false := by first | simpa using c44 | (simp at c44 ⊢; omega)
                            have H' := Aside0.mk H
                            clear H
                            obtain ⟨Ao56, co56, eo56⟩ := Kd.R_slice HO218.out
                            subst eo56
                            go_wp2
                            go_meet
                            case rel => exact ⟨_, (true), (by first | rfl | (simp; done) | (simp [*]; done)), H', ⟨by have := HJ7.out; have := HK2.out; first | omega | exact Nat.le_refl _⟩, ⟨by (with_reducible repeat (first | apply Kd.R_alloc | apply Kd.R_drewN | apply Kd.R_drew)); exact Kd.R_mono HO218.out (fun _ hk => ⟨hk.1.1.2, ⟨hk.1.2, hk.2⟩⟩)⟩, ⟨by (with_reducible repeat (first | apply Kd.R_alloc | apply Kd.R_drewN | apply Kd.R_drew)); exact Kd.R_mono HO222.out (fun _ hk => ⟨hk.1.1.2, ⟨hk.1.2, hk.2⟩⟩)⟩, ⟨by (with_reducible repeat (first | apply Kd.R_alloc | apply Kd.R_drewN | apply Kd.R_drew)); exact Kd.R_mono HO226.out (fun _ hk => ⟨hk.1.1.2, ⟨hk.1.2, hk.2⟩⟩)⟩, ⟨by (with_reducible repeat (first | apply Kd.R_alloc | apply Kd.R_drewN | apply Kd.R_drew)); exact Kd.R_mono HO230.out (fun _ hk => ⟨hk.1.1.2, ⟨hk.1.2, hk.2⟩⟩)⟩, ⟨by repeat (first | (with_reducible first | exact HB.out | apply below_alloc | apply pw_below_drewN | apply below_drew1) | exact HB.out)⟩⟩
                        · rw [if_neg c43] at H
                          have c43b0 : (t228 == 0) = false := beq_eq_false_iff_ne.mpr c43
                          have c43b1 : (t228 != 0) = true := bne_iff_ne.mpr c43
                          have H' := Aside0.mk H
                          clear H
                          go_wp2
                          go_meet
                          case rel => exact ⟨_, (true), (by first | rfl | (simp; done) | (simp [*]; done)), H', ⟨by have := HJ7.out; have := HK2.out; first | omega | exact Nat.le_refl _⟩, ⟨by (with_reducible repeat (first | apply Kd.R_alloc | apply Kd.R_drewN | apply Kd.R_drew)); exact Kd.R_mono HO218.out (fun _ hk => ⟨hk.1.1.2, ⟨hk.1.2, hk.2⟩⟩)⟩, ⟨by (with_reducible repeat (first | apply Kd.R_alloc | apply Kd.R_drewN | apply Kd.R_drew)); exact Kd.R_mono HO222.out (fun _ hk => ⟨hk.1.1.2, ⟨hk.1.2, hk.2⟩⟩)⟩, ⟨by (with_reducible repeat (first | apply Kd.R_alloc | apply Kd.R_drewN | apply Kd.R_drew)); exact Kd.R_mono HO226.out (fun _ hk => ⟨hk.1.1.2, ⟨hk.1.2, hk.2⟩⟩)⟩, ⟨by (with_reducible repeat (first | apply Kd.R_alloc | apply Kd.R_drewN | apply Kd.R_drew)); exact Kd.R_mono HO230.out (fun _ hk => ⟨hk.1.1.2, ⟨hk.1.2, hk.2⟩⟩)⟩, ⟨by repeat (first | (with_reducible first | exact HB.out | apply below_alloc | apply pw_below_drewN | apply below_drew1) | exact HB.out)⟩⟩
                      · rw [if_neg c42] at H
                        have c42b0 : (t224 == 0) = false := beq_eq_false_iff_ne.mpr c42
                        have c42b1 : (t224 != 0) = true := bne_iff_ne.mpr c42
                        have H' := Aside0.mk H
                        clear H
                        go_wp2
                        go_meet
                        case rel => exact ⟨_, (true), (by first | rfl | (simp; done) | (simp [*]; done)), H', ⟨by have := HJ7.out; have := HK2.out; first | omega | exact Nat.le_refl _⟩, ⟨by (with_reducible repeat (first | apply Kd.R_alloc | apply Kd.R_drewN | apply Kd.R_drew)); exact Kd.R_mono HO218.out (fun _ hk => ⟨hk.1.1.2, ⟨hk.1.2, hk.2⟩⟩)⟩, ⟨by (with_reducible repeat (first | apply Kd.R_alloc | apply Kd.R_drewN | apply Kd.R_drew)); exact Kd.R_mono HO222.out (fun _ hk => ⟨hk.1.1.2, ⟨hk.1.2, hk.2⟩⟩)⟩, ⟨by (with_reducible repeat (first | apply Kd.R_alloc | apply Kd.R_drewN | apply Kd.R_drew)); exact Kd.R_mono HO226.out (fun _ hk => ⟨hk.1.1.2, ⟨hk.1.2, hk.2⟩⟩)⟩, ⟨by (with_reducible repeat (first | apply Kd.R_alloc | apply Kd.R_drewN | apply Kd.R_drew)); exact Kd.R_mono HO230.out (fun _ hk => ⟨hk.1.1.2, ⟨hk.1.2, hk.2⟩⟩)⟩, ⟨by repeat (first | (with_reducible first | exact HB.out | apply below_alloc | apply pw_below_drewN | apply below_drew1) | exact HB.out)⟩⟩
                    · rw [if_neg c41] at H
                      have c41b0 : (t220 == 0) = false := beq_eq_false_iff_ne.mpr c41
                      have c41b1 : (t220 != 0) = true := bne_iff_ne.mpr c41
                      have H' := Aside0.mk H
                      clear H
                      go_wp2
                      go_meet
                      case rel => exact ⟨_, (true), (by first | rfl | (simp; done) | (simp [*]; done)), H', ⟨by have := HJ7.out; have := HK2.out; first | omega | exact Nat.le_refl _⟩, ⟨by (with_reducible repeat (first | apply Kd.R_alloc | apply Kd.R_drewN | apply Kd.R_drew)); exact Kd.R_mono HO218.out (fun _ hk => ⟨hk.1.1.2, ⟨hk.1.2, hk.2⟩⟩)⟩, ⟨by (with_reducible repeat (first | apply Kd.R_alloc | apply Kd.R_drewN | apply Kd.R_drew)); exact Kd.R_mono HO222.out (fun _ hk => ⟨hk.1.1.2, ⟨hk.1.2, hk.2⟩⟩)⟩, ⟨by (with_reducible repeat (first | apply Kd.R_alloc | apply Kd.R_drewN | apply Kd.R_drew)); exact Kd.R_mono HO226.out (fun _ hk => ⟨hk.1.1.2, ⟨hk.1.2, hk.2⟩⟩)⟩, ⟨by (with_reducible repeat (first | apply Kd.R_alloc | apply Kd.R_drewN | apply Kd.R_drew)); exact Kd.R_mono HO230.out (fun _ hk => ⟨hk.1.1.2, ⟨hk.1.2, hk.2⟩⟩)⟩, ⟨by repeat (first | (with_reducible first | exact HB.out | apply below_alloc | apply pw_below_drewN | apply below_drew1) | exact HB.out)⟩⟩
                  · rw [if_neg c40] at H
                    have c40b0 : (t216 == 0) = false := beq_eq_false_iff_ne.mpr c40
                    have c40b1 : (t216 != 0) = true := bne_iff_ne.mpr c40
                    (first | rw [c40b0] | (simp only [i64_w, i32_w]; rw [c40b0]) | skip)
                    have H' := Aside0.mk H
                    clear H
                    go_wp2
                    go_meet
                    case rel => exact ⟨_, (true), (by first | rfl | (simp; done) | (simp [*]; done)), H', ⟨by have := HJ7.out; have := HK2.out; first | omega | exact Nat.le_refl _⟩, ⟨by (with_reducible repeat (first | apply Kd.R_alloc | apply Kd.R_drewN | apply Kd.R_drew)); exact Kd.R_mono HO218.out (fun _ hk => ⟨hk.1.1.2, ⟨hk.1.2, hk.2⟩⟩)⟩, ⟨by (with_reducible repeat (first | apply Kd.R_alloc | apply Kd.R_drewN | apply Kd.R_drew)); exact Kd.R_mono HO222.out (fun _ hk => ⟨hk.1.1.2, ⟨hk.1.2, hk.2⟩⟩)⟩, ⟨by (with_reducible repeat (first | apply Kd.R_alloc | apply Kd.R_drewN | apply Kd.R_drew)); exact Kd.R_mono HO226.out (fun _ hk => ⟨hk.1.1.2, ⟨hk.1.2, hk.2⟩⟩)⟩, ⟨by (with_reducible repeat (first | apply Kd.R_alloc | apply Kd.R_drewN | apply Kd.R_drew)); exact Kd.R_mono HO230.out (fun _ hk => ⟨hk.1.1.2, ⟨hk.1.2, hk.2⟩⟩)⟩, ⟨by repeat (first | (with_reducible first | exact HB.out | apply below_alloc | apply pw_below_drewN | apply below_drew1) | exact HB.out)⟩⟩
                case rest =>
                  clear HC33
                  try clear c1
                  try clear c2
                  try clear p2
                  try clear q2
                  try clear hx2
                  try clear c4
                  try clear c6
                  try clear p6
                  try clear c9
                  try clear c10
                  try clear c10b0
                  try clear c10b1
                  try clear c11
                  try clear c11b0
                  try clear c11b1
                  try clear c11b2
                  try clear c12
                  try clear c12b0
                  try clear c13
                  try clear c13b0
                  try clear c13b1
                  try clear c14
                  try clear c15
                  try clear c15b0
                  try clear c16
                  try clear c16b0
                  try clear c17
                  try clear c17b0
                  try clear c20
                  try clear p20
                  try clear q20
                  try clear hx20
                  try clear c21
                  try clear c21b0
                  try clear c21b1
                  try clear c21b2
                  try clear p21
                  try clear q21
                  try clear hx21
                  try clear c23
                  try clear c23b0
                  try clear c24
                  try clear c24b0
                  try clear c25
                  try clear c40
                  try clear c40b0
                  try clear c40b1
                  try clear c41
                  try clear c41b0
                  try clear c41b1
                  try clear c42
                  try clear c42b0
                  try clear c42b1
                  try clear c43
                  try clear c43b0
                  try clear c43b1
                  try clear c44
                  try clear c44b0
                  try clear c44b1
                  try clear c44b2
                  try clear c45
                  try clear c45b0
                  try clear c45b1
                  try clear c45b2
                  try clear c46
                  try clear c46b0
                  try clear c46b1
                  try clear c46b2
                  try clear hx204_0
                  try clear hx205_0
                  try clear hx211_0
                  try clear p2
                  try clear p204
                  try clear p205
                  try clear p211
                  try clear q204
                  try clear q205
                  try clear q211
                  obtain ⟨kq, x150_32, rfl, HA, HJ32, HO_13, HO_15, HO_17, HO_19, HB⟩ := hcut
                  cases kq with
                  | zero => exact absurd HA.out (by simp [abacistlaw09_HalvesLinear.j2])
                  | succ kj32 =>
                    have H := HA.out
                    clear HA
                    simp only [abacistlaw09_HalvesLinear.j2] at H
                    by_cases c57 : x150_32 = true
                    · subst c57
                      have H1 : (some false) = some r := by rw [if_pos rfl] at H; exact H
                      clear H
                      have H := H1
                      clear H1
                      obtain rfl := Option.some.inj H
                      exact absurd hr_.out (by decide)
                    · replace c57 := Bool.eq_false_iff.mpr c57
                      subst c57
                      have H1 : ((abacistref08_Root.f kj32 t203 a3).bind fun t231 => (abacistlaw09_HalvesLinear.l1 kj32 l0 a2 t215 t219 t223 t227 t231 1 0)) = some r := by rw [if_neg (show ¬ (false = true) by decide)] at H; exact H
                      clear H
                      have H := H1
                      clear H1
                      replace H := Option.bind_eq_some_iff.mp H
                      obtain ⟨t231, A580, H⟩ := H
                      replace H : (abacistlaw09_HalvesLinear.l1 kj32 l0 a2 t215 t219 t223 t227 t231 1 0) = some r := H
                      have A58 := Aside0.mk A580
                      clear A580
                      have H' := Aside0.mk H
                      clear H
                      go_wp2_with (first | ((with_reducible refine gate_callee (f := 17) rfl ?_); refine goesL_ (some 153) rfl rfl Tryd.func17 (by kernel_rfl) rfl #[.int .i64 t203, .int .i64 a3] rfl (by (try simp only [List.map_toArray, List.map_cons, List.map_nil]); first | done | rfl | (simp only [List.length_drop, List.length_take]; rfl)) ?_; (with_reducible refine (abacistref08_Root.calls kj32 t203 a3 t231 _ A58.out).mono ?_); rintro e w' ⟨rfl, ⟨nd, rfl⟩⟩; refine ⟨_, rfl, ?_⟩) | (go_at_call 17; (with_reducible refine (abacistref08_Root.calls kj32 t203 a3 t231 _ A58.out).mono ?_); rintro e w' ⟨rfl, ⟨nd, rfl⟩⟩))
                      go_loopg [22, 23] kj32 (fun kq v22 v23 w' => ∃ (x22_4 : Int) (x23_4 : Int), v22 = .int .u64 x22_4 ∧ v23 = .int .i64 x23_4 ∧ Aside0 (abacistlaw09_HalvesLinear.l1 kq l0 a2 t215 t219 t223 t227 t231 x22_4 x23_4 = some r) ∧ Aside0 (kq ≤ kj32) ∧ Aside0 (Kd.R (Kd.int .u64) 32 w' w.heap.size (fun k_ => some k_ ≠ (v221 : Value).ownBlock ∧ some k_ ≠ (v225 : Value).ownBlock ∧ some k_ ≠ (v229 : Value).ownBlock) v217 t215) ∧ Aside0 (Kd.R (Kd.int .u64) 32 w' w.heap.size (fun k_ => some k_ ≠ (v217 : Value).ownBlock ∧ some k_ ≠ (v225 : Value).ownBlock ∧ some k_ ≠ (v229 : Value).ownBlock) v221 t219) ∧ Aside0 (Kd.R (Kd.int .u64) 32 w' w.heap.size (fun k_ => some k_ ≠ (v217 : Value).ownBlock ∧ some k_ ≠ (v221 : Value).ownBlock ∧ some k_ ≠ (v229 : Value).ownBlock) v225 t223) ∧ Aside0 (Kd.R (Kd.int .u64) 32 w' w.heap.size (fun k_ => some k_ ≠ (v217 : Value).ownBlock ∧ some k_ ≠ (v221 : Value).ownBlock ∧ some k_ ≠ (v225 : Value).ownBlock) v229 t227) ∧ Aside0 (Below w.heap.size w w'))
                      case atStart => exact ⟨(1), (0), (by first | rfl | (simp; done) | (simp [*]; done)), (by first | rfl | (simp; done) | (simp [*]; done)), H', ⟨Nat.le_refl _⟩, ⟨by (with_reducible repeat (first | apply Kd.R_alloc | apply Kd.R_drewN | apply Kd.R_drew)); exact HO_13.out⟩, ⟨by (with_reducible repeat (first | apply Kd.R_alloc | apply Kd.R_drewN | apply Kd.R_drew)); exact HO_15.out⟩, ⟨by (with_reducible repeat (first | apply Kd.R_alloc | apply Kd.R_drewN | apply Kd.R_drew)); exact HO_17.out⟩, ⟨by (with_reducible repeat (first | apply Kd.R_alloc | apply Kd.R_drewN | apply Kd.R_drew)); exact HO_19.out⟩, ⟨by repeat (first | (with_reducible first | exact HB.out | apply below_alloc | apply pw_below_drewN | apply below_drew1) | exact HB.out)⟩⟩
                      case round =>
                        clear H'
                        try clear c1
                        try clear c2
                        try clear p2
                        try clear q2
                        try clear hx2
                        try clear c4
                        try clear c5
                        try clear c6
                        try clear p6
                        try clear c9
                        try clear c10
                        try clear c10b0
                        try clear c10b1
                        try clear c11
                        try clear c11b0
                        try clear c11b1
                        try clear c11b2
                        try clear c12
                        try clear c12b0
                        try clear c13
                        try clear c13b0
                        try clear c13b1
                        try clear c14
                        try clear c15
                        try clear c15b0
                        try clear c16
                        try clear c16b0
                        try clear c17
                        try clear c17b0
                        try clear c20
                        try clear p20
                        try clear q20
                        try clear hx20
                        try clear c21
                        try clear c21b0
                        try clear c21b1
                        try clear c21b2
                        try clear p21
                        try clear q21
                        try clear hx21
                        try clear c23
                        try clear c23b0
                        try clear c24
                        try clear c24b0
                        try clear c25
                        try clear c40
                        try clear c40b0
                        try clear c40b1
                        try clear c41
                        try clear c41b0
                        try clear c41b1
                        try clear c42
                        try clear c42b0
                        try clear c42b1
                        try clear c43
                        try clear c43b0
                        try clear c43b1
                        try clear c44
                        try clear c44b0
                        try clear c44b1
                        try clear c44b2
                        try clear c45
                        try clear c45b0
                        try clear c45b1
                        try clear c45b2
                        try clear c46
                        try clear c46b0
                        try clear c46b1
                        try clear c46b2
                        try clear c57
                        try clear hx204_0
                        try clear hx205_0
                        try clear hx211_0
                        try clear p2
                        try clear p20
                        try clear p204
                        try clear p205
                        try clear p21
                        try clear p211
                        try clear p6
                        try clear q2
                        try clear q20
                        try clear q204
                        try clear q205
                        try clear q21
                        try clear q211
                        obtain ⟨x22_4, x23_4, rfl, rfl, HA, HK4, HO_13, HO_15, HO_17, HO_19, HB⟩ := hrel
                        cases gk with
                        | zero => exact absurd HA.out (by simp [abacistlaw09_HalvesLinear.l1])
                        | succ k4 =>
                          have H := HA.out
                          clear HA
                          simp only [abacistlaw09_HalvesLinear.l1] at H
                          by_cases c59 : x23_4 < (l0.length : Int)
                          · rw [if_pos c59] at H
                            have c59b0 : decide (x23_4 < (l0.length : Int)) = true := decide_eq_true c59
                            clear c59
                            by_cases c60 : 0 ≤ x23_4
                            · rw [if_pos c60] at H
                              have c60b0 : decide (0 ≤ x23_4) = true := decide_eq_true c60
                              clear c60
                              by_cases c61 : x23_4 < (t223.length : Int)
                              · rw [if_pos c61] at H
                                have c61b0 : decide (x23_4 < (t223.length : Int)) = true := decide_eq_true c61
                                clear c61
                                by_cases c62 : x23_4 < (t215.length : Int)
                                · rw [if_pos c62] at H
                                  have c62b0 : decide (x23_4 < (t215.length : Int)) = true := decide_eq_true c62
                                  clear c62
                                  by_cases c63 : x23_4 < (t219.length : Int)
                                  · rw [if_pos c63] at H
                                    have c63b0 : decide (x23_4 < (t219.length : Int)) = true := decide_eq_true c63
                                    clear c63
                                    replace H := Option.bind_eq_some_iff.mp H
                                    obtain ⟨t235, A640, H⟩ := H
                                    replace H : ((abacistref02_Add.f (rd t215 x23_4) t235).bind fun t236 => (if (rd t223 x23_4) = t236 then (if x23_4 < (t227.length : Int) then ((abacistref02_Mul.f k4 (rd t215 x23_4) x22_4).bind fun t239 => (if (rd t227 x23_4) = t239 then ((abacistref02_Mul.f k4 x22_4 t231).bind fun t240 => (abacistlaw09_HalvesLinear.l1 k4 l0 a2 t215 t219 t223 t227 t231 t240 (wrap64 (x23_4 + 1)))) else (some false))) else (none)) else (some false))) = some r := H
                                    have A64 := Aside0.mk A640
                                    clear A640
                                    replace H := Option.bind_eq_some_iff.mp H
                                    obtain ⟨t236, A650, H⟩ := H
                                    replace H : (if (rd t223 x23_4) = t236 then (if x23_4 < (t227.length : Int) then ((abacistref02_Mul.f k4 (rd t215 x23_4) x22_4).bind fun t239 => (if (rd t227 x23_4) = t239 then ((abacistref02_Mul.f k4 x22_4 t231).bind fun t240 => (abacistlaw09_HalvesLinear.l1 k4 l0 a2 t215 t219 t223 t227 t231 t240 (wrap64 (x23_4 + 1)))) else (some false))) else (none)) else (some false)) = some r := H
                                    have A65 := Aside0.mk A650
                                    clear A650
                                    by_cases c66 : (rd t223 x23_4) = t236
                                    · rw [if_pos c66] at H
                                      have c66b0 : ((rd t223 x23_4) == t236) = true := beq_iff_eq.mpr c66
                                      have c66b1 : ((rd t223 x23_4) != t236) = false := bne_eq_false_iff_eq.mpr c66
                                      clear c66
                                      by_cases c67 : x23_4 < (t227.length : Int)
                                      · rw [if_pos c67] at H
                                        have c67b0 : decide (x23_4 < (t227.length : Int)) = true := decide_eq_true c67
                                        clear c67
                                        replace H := Option.bind_eq_some_iff.mp H
                                        obtain ⟨t239, A680, H⟩ := H
                                        replace H : (if (rd t227 x23_4) = t239 then ((abacistref02_Mul.f k4 x22_4 t231).bind fun t240 => (abacistlaw09_HalvesLinear.l1 k4 l0 a2 t215 t219 t223 t227 t231 t240 (wrap64 (x23_4 + 1)))) else (some false)) = some r := H
                                        have A68 := Aside0.mk A680
                                        clear A680
                                        by_cases c69 : (rd t227 x23_4) = t239
                                        · rw [if_pos c69] at H
                                          have c69b0 : ((rd t227 x23_4) == t239) = true := beq_iff_eq.mpr c69
                                          have c69b1 : ((rd t227 x23_4) != t239) = false := bne_eq_false_iff_eq.mpr c69
                                          clear c69
                                          replace H := Option.bind_eq_some_iff.mp H
                                          obtain ⟨t240, A700, H⟩ := H
                                          replace H : (abacistlaw09_HalvesLinear.l1 k4 l0 a2 t215 t219 t223 t227 t231 t240 (wrap64 (x23_4 + 1))) = some r := H
                                          have A70 := Aside0.mk A700
                                          clear A700
                                          have H' := Aside0.mk H
                                          clear H
                                          try go_wp2
                                          have n0_ := Aside0.mk (Kd.R_drew HO_13.out)
                                          have n1_ := Aside0.mk (Kd.R_drew HO_15.out)
                                          have n2_ := Aside0.mk (Kd.R_drew HO_17.out)
                                          have n3_ := Aside0.mk (Kd.R_drew HO_19.out)
                                          have n4_ := Aside0.mk (below_drew1 HB.out)
                                          clear HO_13
                                          clear HO_15
                                          clear HO_17
                                          clear HO_19
                                          clear HB
                                          have HO_13 := n0_
                                          have HO_15 := n1_
                                          have HO_17 := n2_
                                          have HO_19 := n3_
                                          have HB := n4_
                                          clear n0_ n1_ n2_ n3_ n4_
                                          obtain ⟨Ao72, co72, eo72⟩ := Kd.R_slice HO_17.out
                                          (first | subst eo72 | (injection eo72 with f1_ f2_ f3_; have f4_ := f1_.symm; have f5_ := f3_.symm; clear f1_ f2_ f3_; subst f4_; subst f5_))
                                          have p232 : 0 ≤ (x23_4 : Int) := of_decide_eq_true (by first | (with_reducible assumption) | assumption)
                                          have q232 : x23_4 < (t223.length : Int) := of_decide_eq_true (by first | (with_reducible assumption) | assumption)
                                          obtain ⟨ad232, e232, hx232_0⟩ := Kd.at_int (Kd.R_reads' HO_17.out).2.2 x23_4 p232 q232
                                          cases e232
                                          replace p232 := eq_true p232
                                          replace q232 := eq_true q232
                                          obtain ⟨Ao73, co73, eo73⟩ := Kd.R_slice HO_13.out
                                          (first | subst eo73 | (injection eo73 with f1_ f2_ f3_; have f4_ := f1_.symm; have f5_ := f3_.symm; clear f1_ f2_ f3_; subst f4_; subst f5_))
                                          have p233 : 0 ≤ (x23_4 : Int) := of_decide_eq_true (by first | (with_reducible assumption) | assumption)
                                          have q233 : x23_4 < (t215.length : Int) := of_decide_eq_true (by first | (with_reducible assumption) | assumption)
                                          obtain ⟨ad233, e233, hx233_0⟩ := Kd.at_int (Kd.R_reads' HO_13.out).2.2 x23_4 p233 q233
                                          cases e233
                                          replace p233 := eq_true p233
                                          replace q233 := eq_true q233
                                          obtain ⟨Ao74, co74, eo74⟩ := Kd.R_slice HO_15.out
                                          (first | subst eo74 | (injection eo74 with f1_ f2_ f3_; have f4_ := f1_.symm; have f5_ := f3_.symm; clear f1_ f2_ f3_; subst f4_; subst f5_))
                                          have p234 : 0 ≤ (x23_4 : Int) := of_decide_eq_true (by first | (with_reducible assumption) | assumption)
                                          have q234 : x23_4 < (t219.length : Int) := of_decide_eq_true (by first | (with_reducible assumption) | assumption)
                                          obtain ⟨ad234, e234, hx234_0⟩ := Kd.at_int (Kd.R_reads' HO_15.out).2.2 x23_4 p234 q234
                                          cases e234
                                          replace p234 := eq_true p234
                                          replace q234 := eq_true q234
                                          have p237 : 0 ≤ (x23_4 : Int) := of_decide_eq_true (by first | (with_reducible assumption) | assumption)
                                          have q237 : x23_4 < (t227.length : Int) := of_decide_eq_true (by first | (with_reducible assumption) | assumption)
                                          (try (obtain ⟨AoQ237, coQ237, eoQ237⟩ := Kd.R_slice HO_19.out; (first | subst eoQ237 | (injection eoQ237 with f1_ f2_ f3_; have f4_ := f1_.symm; have f5_ := f3_.symm; clear f1_ f2_ f3_; subst f4_; subst f5_))))
                                          obtain ⟨ad237, e237, hx237_0⟩ := Kd.at_int (Kd.R_reads' HO_19.out).2.2 x23_4 p237 q237
                                          cases e237
                                          replace p237 := eq_true p237
                                          replace q237 := eq_true q237
                                          have p238 : 0 ≤ (x23_4 : Int) := of_decide_eq_true (by first | (with_reducible assumption) | assumption)
                                          have q238 : x23_4 < (t215.length : Int) := of_decide_eq_true (by first | (with_reducible assumption) | assumption)
                                          obtain ⟨ad238, e238, hx238_0⟩ := Kd.at_int (Kd.R_reads' HO_13.out).2.2 x23_4 p238 q238
                                          obtain rfl : ad233 = ad238 := (by injection e238)
                                          replace p238 := eq_true p238
                                          replace q238 := eq_true q238
                                          refine start_ (n := 29) (S := fun w' => w'.cell? (ad232.add (x23_4).toNat) = some (.int .u64 (rd t223 x23_4)) ∧ w'.cell? (ad233.add (x23_4).toNat) = some (.int .u64 (rd t215 x23_4)) ∧ w'.cell? (ad234.add (x23_4).toNat) = some (.int .u64 (rd t219 x23_4)) ∧ w'.cell? (ad237.add (x23_4).toNat) = some (.int .u64 (rd t227 x23_4)) ∧ w'.cell? (ad233.add (x23_4).toNat) = some (.int .u64 (rd t215 x23_4))) (ds := []) #[false, false, false, false, false, false, false, false, false, false, false, false, false, false, false, false, false, false, false, false, false, false, false, false, false, false, false, false, false] (by kernel_rfl) rfl rfl ⟨hx232_0, hx233_0, hx234_0, hx237_0, hx238_0⟩ (fun hHeld => ?_); refine with_tabW abacistlaw09_HalvesLinear.tab23 abacistlaw09_HalvesLinear.bits23 (fun HT_ HW_ => ?_)
                                          generalize wr.drew = w71 at HO_13 HO_15 HO_17 HO_19 HB hx232_0 hx233_0 hx234_0 hx237_0 hx238_0 hHeld ⊢
                                          refine pure_ (i := 0) (N := some 160) (v := ?_) (a' := ?_) #[true, false, false, false, false, false, false, false, false, false, false, false, false, false, false, false, false, false, false, false, false, false, false, false, false, false, false, false, false] rfl rfl (any_of HT_.out (by kernel_rfl)) (fun _ _ _ h => h) (Or.inl ⟨by rfl, ?_⟩) ?_ ?_
                                          rotate_left
                                          · intro w'
                                            go_simp
                                            with_reducible rfl
                                          rotate_left
                                          · simp only [Act.put, List.setIfInBounds_toArray, List.set_cons_zero, List.set_cons_succ, i64_w, i32_w]
                                            rfl
                                          refine pure_ (i := 1) (N := some 161) (v := ?_) (a' := ?_) #[true, true, false, false, false, false, false, false, false, false, false, false, false, false, false, false, false, false, false, false, false, false, false, false, false, false, false, false, false] rfl rfl (any_of HT_.out (by kernel_rfl)) (fun _ _ _ h => h) (Or.inl ⟨by rfl, ?_⟩) ?_ ?_
                                          rotate_left
                                          · intro w'
                                            go_simp
                                            with_reducible rfl
                                          rotate_left
                                          · simp only [Act.put, List.setIfInBounds_toArray, List.set_cons_zero, List.set_cons_succ, i64_w, i32_w]
                                            rfl
                                          refine pure_ (i := 2) (N := some 162) (v := ?_) (a' := ?_) #[true, true, true, false, false, false, false, false, false, false, false, false, false, false, false, false, false, false, false, false, false, false, false, false, false, false, false, false, false] rfl rfl (any_of HT_.out (by kernel_rfl)) (fun _ _ _ h => h) (Or.inl ⟨by rfl, ?_⟩) ?_ ?_
                                          rotate_left
                                          · intro w'
                                            go_simp
                                            with_reducible rfl
                                          rotate_left
                                          · simp only [Act.put, List.setIfInBounds_toArray, List.set_cons_zero, List.set_cons_succ, i64_w, i32_w]
                                            rfl
                                          refine pure_ (i := 4) (N := some 164) (v := ?_) (a' := ?_) #[true, true, true, false, true, false, false, false, false, false, false, false, false, false, false, false, false, false, false, false, false, false, false, false, false, false, false, false, false] rfl rfl (any_of HT_.out (by kernel_rfl)) (fun _ _ _ h => h) (Or.inl ⟨by rfl, ?_⟩) ?_ ?_
                                          rotate_left
                                          · intro w'
                                            go_simp
                                            with_reducible rfl
                                          rotate_left
                                          · simp only [Act.put, List.setIfInBounds_toArray, List.set_cons_zero, List.set_cons_succ, i64_w, i32_w]
                                            rfl
                                          refine pure_ (i := 5) (N := some 165) (v := ?_) (a' := ?_) #[true, true, true, false, true, true, false, false, false, false, false, false, false, false, false, false, false, false, false, false, false, false, false, false, false, false, false, false, false] rfl rfl (any_of HT_.out (by kernel_rfl)) (fun _ _ _ h => h) (Or.inl ⟨by rfl, ?_⟩) ?_ ?_
                                          rotate_left
                                          · intro w'
                                            go_simp
                                            with_reducible rfl
                                          rotate_left
                                          · simp only [Act.put, List.setIfInBounds_toArray, List.set_cons_zero, List.set_cons_succ, i64_w, i32_w]
                                            rfl
                                          refine pure_ (i := 6) (N := some 166) (v := ?_) (a' := ?_) #[true, true, true, false, true, true, true, false, false, false, false, false, false, false, false, false, false, false, false, false, false, false, false, false, false, false, false, false, false] rfl rfl (any_of HT_.out (by kernel_rfl)) (fun _ _ _ h => h) (Or.inl ⟨by rfl, ?_⟩) ?_ ?_
                                          rotate_left
                                          · intro w'
                                            go_simp
                                            with_reducible rfl
                                          rotate_left
                                          · simp only [Act.put, List.setIfInBounds_toArray, List.set_cons_zero, List.set_cons_succ, i64_w, i32_w]
                                            rfl
                                          refine pure_ (i := 8) (N := some 168) (v := ?_) (a' := ?_) #[true, true, true, false, true, true, true, false, true, false, false, false, false, false, false, false, false, false, false, false, false, false, false, false, false, false, false, false, false] rfl rfl (any_of HT_.out (by kernel_rfl)) (fun _ _ _ h => h) (Or.inl ⟨by rfl, ?_⟩) ?_ ?_
                                          rotate_left
                                          · intro w'
                                            go_simp
                                            with_reducible rfl
                                          rotate_left
                                          · simp only [Act.put, List.setIfInBounds_toArray, List.set_cons_zero, List.set_cons_succ, i64_w, i32_w]
                                            rfl
                                          refine pure_ (i := 9) (N := some 169) (v := ?_) (a' := ?_) #[true, true, true, false, true, true, true, false, true, true, false, false, false, false, false, false, false, false, false, false, false, false, false, false, false, false, false, false, false] rfl rfl (any_of HT_.out (by kernel_rfl)) (fun _ _ _ h => h) (Or.inl ⟨by rfl, ?_⟩) ?_ ?_
                                          rotate_left
                                          · intro w'
                                            go_simp
                                            with_reducible rfl
                                          rotate_left
                                          · simp only [Act.put, List.setIfInBounds_toArray, List.set_cons_zero, List.set_cons_succ, i64_w, i32_w]
                                            rfl
                                          refine pure_ (i := 10) (N := some 170) (v := ?_) (a' := ?_) #[true, true, true, false, true, true, true, false, true, true, true, false, false, false, false, false, false, false, false, false, false, false, false, false, false, false, false, false, false] rfl rfl (any_of HT_.out (by kernel_rfl)) (fun _ _ _ h => h) (Or.inl ⟨by rfl, ?_⟩) ?_ ?_
                                          rotate_left
                                          · intro w'
                                            go_simp
                                            with_reducible rfl
                                          rotate_left
                                          · simp only [Act.put, List.setIfInBounds_toArray, List.set_cons_zero, List.set_cons_succ, i64_w, i32_w]
                                            rfl
                                          refine pure_ (i := 12) (N := some 172) (v := ?_) (a' := ?_) #[true, true, true, false, true, true, true, false, true, true, true, false, true, false, false, false, false, false, false, false, false, false, false, false, false, false, false, false, false] rfl rfl (any_of HT_.out (by kernel_rfl)) (fun _ _ _ h => h) (Or.inl ⟨by rfl, ?_⟩) ?_ ?_
                                          rotate_left
                                          · intro w'
                                            go_simp
                                            with_reducible rfl
                                          rotate_left
                                          · simp only [Act.put, List.setIfInBounds_toArray, List.set_cons_zero, List.set_cons_succ, i64_w, i32_w]
                                            rfl
                                          refine take_ (i := 3) (N := some 163) (v := ?_) (a' := ?_) #[true, true, true, true, true, true, true, false, true, true, true, false, true, false, false, false, false, false, false, false, false, false, false, false, false, false, false, false, false] rfl rfl (take_ofW HT_.out HW_.out (by kernel_rfl)) (fun _ _ _ h => h) (Or.inl ⟨by rfl, ?_⟩) hHeld ?_ ?_
                                          rotate_left
                                          · rintro w' ⟨s0, s1, s2, s3, s4⟩
                                            go_simp
                                            with_reducible rfl
                                          rotate_left
                                          · simp only [Act.put, List.setIfInBounds_toArray, List.set_cons_zero, List.set_cons_succ, i64_w, i32_w]
                                            rfl
                                          refine take_ (i := 7) (N := some 167) (v := ?_) (a' := ?_) #[true, true, true, true, true, true, true, true, true, true, true, false, true, false, false, false, false, false, false, false, false, false, false, false, false, false, false, false, false] rfl rfl (take_ofW HT_.out HW_.out (by kernel_rfl)) (fun _ _ _ h => h) (Or.inl ⟨by rfl, ?_⟩) hHeld ?_ ?_
                                          rotate_left
                                          · rintro w' ⟨s0, s1, s2, s3, s4⟩
                                            go_simp
                                            with_reducible rfl
                                          rotate_left
                                          · simp only [Act.put, List.setIfInBounds_toArray, List.set_cons_zero, List.set_cons_succ, i64_w, i32_w]
                                            rfl
                                          refine take_ (i := 11) (N := some 171) (v := ?_) (a' := ?_) #[true, true, true, true, true, true, true, true, true, true, true, true, true, false, false, false, false, false, false, false, false, false, false, false, false, false, false, false, false] rfl rfl (take_ofW HT_.out HW_.out (by kernel_rfl)) (fun _ _ _ h => h) (Or.inl ⟨by rfl, ?_⟩) hHeld ?_ ?_
                                          rotate_left
                                          · rintro w' ⟨s0, s1, s2, s3, s4⟩
                                            go_simp
                                            with_reducible rfl
                                          rotate_left
                                          · simp only [Act.put, List.setIfInBounds_toArray, List.set_cons_zero, List.set_cons_succ, i64_w, i32_w]
                                            rfl
                                          refine one_ (i := 13) (N := some 173) #[true, true, true, true, true, true, true, true, true, true, true, true, true, true, false, false, false, false, false, false, false, false, false, false, false, false, false, false, false] rfl rfl (one_of HT_.out (by kernel_rfl)) (by decide) (fun K hK => ?_)
                                          refine goes_ Tryd.func16 (by kernel_rfl) rfl #[.int .u64 (rd t219 x23_4), .int .u64 a2] (by rfl) rfl rfl (by (try simp only [List.map_toArray, List.map_cons, List.map_nil]); first | done | rfl | (simp only [List.length_drop, List.length_take]; rfl)) ?_
                                          with_reducible refine (abacistref02_Mul.calls k4 (rd t219 x23_4) a2 t235 _ A64.out).mono ?_
                                          rintro e w' ⟨rfl, ⟨nd, rfl⟩⟩
                                          refine ⟨_, rfl, ?_⟩
                                          refine hK.out _ _ ⟨hHeld.1, hHeld.2.1, hHeld.2.2.1, hHeld.2.2.2.1, hHeld.2.2.2.2⟩ (fun hHeld => ?_)
                                          clear hK K
                                          refine norm_ (a' := ?_) ?_ ?_
                                          rotate_left
                                          · show Act.put _ (some 173) _ = _
                                            simp only [Act.put, List.setIfInBounds_toArray, List.set_cons_zero, List.set_cons_succ, i64_w, i32_w]
                                            rfl
                                          refine one_ (i := 14) (N := some 174) #[true, true, true, true, true, true, true, true, true, true, true, true, true, true, true, false, false, false, false, false, false, false, false, false, false, false, false, false, false] rfl rfl (one_of HT_.out (by kernel_rfl)) (by decide) (fun K hK => ?_)
                                          refine goes_ Tryd.func15 (by kernel_rfl) rfl #[.int .u64 (rd t215 x23_4), .int .u64 t235] (by rfl) rfl rfl (by (try simp only [List.map_toArray, List.map_cons, List.map_nil]); first | done | rfl | (simp only [List.length_drop, List.length_take]; rfl)) ?_
                                          with_reducible refine (abacistref02_Add.calls (rd t215 x23_4) t235 t236 _ A65.out).mono ?_
                                          rintro e w' ⟨rfl, ⟨nd, rfl⟩⟩
                                          refine ⟨_, rfl, ?_⟩
                                          obtain ⟨Ao75, co75, eo75⟩ := Kd.R_slice HO_19.out
                                          (first | subst eo75 | (injection eo75 with f1_ f2_ f3_; have f4_ := f1_.symm; have f5_ := f3_.symm; clear f1_ f2_ f3_; subst f4_; subst f5_))
                                          refine hK.out _ _ ⟨hHeld.1, hHeld.2.1, hHeld.2.2.1, hHeld.2.2.2.1, hHeld.2.2.2.2⟩ (fun hHeld => ?_)
                                          clear hK K
                                          refine norm_ (a' := ?_) ?_ ?_
                                          rotate_left
                                          · show Act.put _ (some 174) _ = _
                                            simp only [Act.put, List.setIfInBounds_toArray, List.set_cons_zero, List.set_cons_succ, i64_w, i32_w]
                                            rfl
                                          refine pure_ (i := 15) (N := some 175) (v := ?_) (a' := ?_) #[true, true, true, true, true, true, true, true, true, true, true, true, true, true, true, true, false, false, false, false, false, false, false, false, false, false, false, false, false] rfl rfl (any_of HT_.out (by kernel_rfl)) (fun _ _ _ h => h) (Or.inl ⟨by rfl, ?_⟩) ?_ ?_
                                          rotate_left
                                          · intro w'
                                            go_simp
                                            with_reducible rfl
                                          rotate_left
                                          · simp only [Act.put, List.setIfInBounds_toArray, List.set_cons_zero, List.set_cons_succ, i64_w, i32_w]
                                            rfl
                                          refine pure_ (i := 16) (N := some 176) (v := ?_) (a' := ?_) #[true, true, true, true, true, true, true, true, true, true, true, true, true, true, true, true, true, false, false, false, false, false, false, false, false, false, false, false, false] rfl rfl (any_of HT_.out (by kernel_rfl)) (fun _ _ _ h => h) (Or.inl ⟨by rfl, ?_⟩) ?_ ?_
                                          rotate_left
                                          · intro w'
                                            go_simp
                                            with_reducible rfl
                                          rotate_left
                                          · simp only [Act.put, List.setIfInBounds_toArray, List.set_cons_zero, List.set_cons_succ, i64_w, i32_w]
                                            rfl
                                          refine pure_ (i := 17) (N := some 177) (v := ?_) (a' := ?_) #[true, true, true, true, true, true, true, true, true, true, true, true, true, true, true, true, true, true, false, false, false, false, false, false, false, false, false, false, false] rfl rfl (any_of HT_.out (by kernel_rfl)) (fun _ _ _ h => h) (Or.inl ⟨by rfl, ?_⟩) ?_ ?_
                                          rotate_left
                                          · intro w'
                                            go_simp
                                            with_reducible rfl
                                          rotate_left
                                          · simp only [Act.put, List.setIfInBounds_toArray, List.set_cons_zero, List.set_cons_succ, i64_w, i32_w]
                                            rfl
                                          refine pure_ (i := 18) (N := some 178) (v := ?_) (a' := ?_) #[true, true, true, true, true, true, true, true, true, true, true, true, true, true, true, true, true, true, true, false, false, false, false, false, false, false, false, false, false] rfl rfl (any_of HT_.out (by kernel_rfl)) (fun _ _ _ h => h) (Or.inl ⟨by rfl, ?_⟩) ?_ ?_
                                          rotate_left
                                          · intro w'
                                            go_simp
                                            with_reducible rfl
                                          rotate_left
                                          · simp only [Act.put, List.setIfInBounds_toArray, List.set_cons_zero, List.set_cons_succ, i64_w, i32_w]
                                            rfl
                                          refine pure_ (i := 19) (N := some 179) (v := ?_) (a' := ?_) #[true, true, true, true, true, true, true, true, true, true, true, true, true, true, true, true, true, true, true, true, false, false, false, false, false, false, false, false, false] rfl rfl (any_of HT_.out (by kernel_rfl)) (fun _ _ _ h => h) (Or.inl ⟨by rfl, ?_⟩) ?_ ?_
                                          rotate_left
                                          · intro w'
                                            go_simp
                                            with_reducible rfl
                                          rotate_left
                                          · simp only [Act.put, List.setIfInBounds_toArray, List.set_cons_zero, List.set_cons_succ, i64_w, i32_w]
                                            rfl
                                          refine pure_ (i := 21) (N := some 181) (v := ?_) (a' := ?_) #[true, true, true, true, true, true, true, true, true, true, true, true, true, true, true, true, true, true, true, true, false, true, false, false, false, false, false, false, false] rfl rfl (any_of HT_.out (by kernel_rfl)) (fun _ _ _ h => h) (Or.inl ⟨by rfl, ?_⟩) ?_ ?_
                                          rotate_left
                                          · intro w'
                                            go_simp
                                            with_reducible rfl
                                          rotate_left
                                          · simp only [Act.put, List.setIfInBounds_toArray, List.set_cons_zero, List.set_cons_succ, i64_w, i32_w]
                                            rfl
                                          refine pure_ (i := 22) (N := some 182) (v := ?_) (a' := ?_) #[true, true, true, true, true, true, true, true, true, true, true, true, true, true, true, true, true, true, true, true, false, true, true, false, false, false, false, false, false] rfl rfl (any_of HT_.out (by kernel_rfl)) (fun _ _ _ h => h) (Or.inl ⟨by rfl, ?_⟩) ?_ ?_
                                          rotate_left
                                          · intro w'
                                            go_simp
                                            with_reducible rfl
                                          rotate_left
                                          · simp only [Act.put, List.setIfInBounds_toArray, List.set_cons_zero, List.set_cons_succ, i64_w, i32_w]
                                            rfl
                                          refine pure_ (i := 23) (N := some 183) (v := ?_) (a' := ?_) #[true, true, true, true, true, true, true, true, true, true, true, true, true, true, true, true, true, true, true, true, false, true, true, true, false, false, false, false, false] rfl rfl (any_of HT_.out (by kernel_rfl)) (fun _ _ _ h => h) (Or.inl ⟨by rfl, ?_⟩) ?_ ?_
                                          rotate_left
                                          · intro w'
                                            go_simp
                                            with_reducible rfl
                                          rotate_left
                                          · simp only [Act.put, List.setIfInBounds_toArray, List.set_cons_zero, List.set_cons_succ, i64_w, i32_w]
                                            rfl
                                          refine pure_ (i := 25) (N := some 185) (v := ?_) (a' := ?_) #[true, true, true, true, true, true, true, true, true, true, true, true, true, true, true, true, true, true, true, true, false, true, true, true, false, true, false, false, false] rfl rfl (any_of HT_.out (by kernel_rfl)) (fun _ _ _ h => h) (Or.inl ⟨by rfl, ?_⟩) ?_ ?_
                                          rotate_left
                                          · intro w'
                                            go_simp
                                            with_reducible rfl
                                          rotate_left
                                          · simp only [Act.put, List.setIfInBounds_toArray, List.set_cons_zero, List.set_cons_succ, i64_w, i32_w]
                                            rfl
                                          refine take_ (i := 20) (N := some 180) (v := ?_) (a' := ?_) #[true, true, true, true, true, true, true, true, true, true, true, true, true, true, true, true, true, true, true, true, true, true, true, true, false, true, false, false, false] rfl rfl (take_ofW HT_.out HW_.out (by kernel_rfl)) (fun _ _ _ h => h) (Or.inl ⟨by rfl, ?_⟩) hHeld ?_ ?_
                                          rotate_left
                                          · rintro w' ⟨s0, s1, s2, s3, s4⟩
                                            go_simp
                                            with_reducible rfl
                                          rotate_left
                                          · simp only [Act.put, List.setIfInBounds_toArray, List.set_cons_zero, List.set_cons_succ, i64_w, i32_w]
                                            rfl
                                          refine take_ (i := 24) (N := some 184) (v := ?_) (a' := ?_) #[true, true, true, true, true, true, true, true, true, true, true, true, true, true, true, true, true, true, true, true, true, true, true, true, true, true, false, false, false] rfl rfl (take_ofW HT_.out HW_.out (by kernel_rfl)) (fun _ _ _ h => h) (Or.inl ⟨by rfl, ?_⟩) hHeld ?_ ?_
                                          rotate_left
                                          · rintro w' ⟨s0, s1, s2, s3, s4⟩
                                            go_simp
                                            with_reducible rfl
                                          rotate_left
                                          · simp only [Act.put, List.setIfInBounds_toArray, List.set_cons_zero, List.set_cons_succ, i64_w, i32_w]
                                            rfl
                                          refine one_ (i := 26) (N := some 186) #[true, true, true, true, true, true, true, true, true, true, true, true, true, true, true, true, true, true, true, true, true, true, true, true, true, true, true, false, false] rfl rfl (one_of HT_.out (by kernel_rfl)) (by decide) (fun K hK => ?_)
                                          refine goes_ Tryd.func16 (by kernel_rfl) rfl #[.int .u64 (rd t215 x23_4), .int .u64 x22_4] (by rfl) rfl rfl (by (try simp only [List.map_toArray, List.map_cons, List.map_nil]); first | done | rfl | (simp only [List.length_drop, List.length_take]; rfl)) ?_
                                          with_reducible refine (abacistref02_Mul.calls k4 (rd t215 x23_4) x22_4 t239 _ A68.out).mono ?_
                                          rintro e w' ⟨rfl, ⟨nd, rfl⟩⟩
                                          refine ⟨_, rfl, ?_⟩
                                          refine hK.out _ _ ⟨hHeld.1, hHeld.2.1, hHeld.2.2.1, hHeld.2.2.2.1, hHeld.2.2.2.2⟩ (fun hHeld => ?_)
                                          clear hK K
                                          refine norm_ (a' := ?_) ?_ ?_
                                          rotate_left
                                          · show Act.put _ (some 186) _ = _
                                            simp only [Act.put, List.setIfInBounds_toArray, List.set_cons_zero, List.set_cons_succ, i64_w, i32_w]
                                            rfl
                                          refine pure_ (i := 27) (N := some 187) (v := ?_) (a' := ?_) #[true, true, true, true, true, true, true, true, true, true, true, true, true, true, true, true, true, true, true, true, true, true, true, true, true, true, true, true, false] rfl rfl (any_of HT_.out (by kernel_rfl)) (fun _ _ _ h => h) (Or.inl ⟨by rfl, ?_⟩) ?_ ?_
                                          rotate_left
                                          · intro w'
                                            go_simp
                                            with_reducible rfl
                                          rotate_left
                                          · simp only [Act.put, List.setIfInBounds_toArray, List.set_cons_zero, List.set_cons_succ, i64_w, i32_w]
                                            rfl
                                          refine pure_ (i := 28) (N := some 188) (v := ?_) (a' := ?_) #[true, true, true, true, true, true, true, true, true, true, true, true, true, true, true, true, true, true, true, true, true, true, true, true, true, true, true, true, true] rfl rfl (any_of HT_.out (by kernel_rfl)) (fun _ _ _ h => h) (Or.inl ⟨by rfl, ?_⟩) ?_ ?_
                                          rotate_left
                                          · intro w'
                                            go_simp
                                            with_reducible rfl
                                          rotate_left
                                          · simp only [Act.put, List.setIfInBounds_toArray, List.set_cons_zero, List.set_cons_succ, i64_w, i32_w]
                                            rfl
                                          refine done_ (done_of HT_.out (by kernel_rfl)) ?_
                                          try go_wp2_with (first | ((with_reducible refine gate_callee (f := 16) rfl ?_); refine goesL_ (some 191) rfl rfl Tryd.func16 (by kernel_rfl) rfl #[.int .u64 x22_4, .int .u64 t231] rfl (by (try simp only [List.map_toArray, List.map_cons, List.map_nil]); first | done | rfl | (simp only [List.length_drop, List.length_take]; rfl)) ?_; (with_reducible refine (abacistref02_Mul.calls k4 x22_4 t231 t240 _ A70.out).mono ?_); rintro e w' ⟨rfl, ⟨nd, rfl⟩⟩; refine ⟨_, rfl, ?_⟩) | (go_at_call 16; (with_reducible refine (abacistref02_Mul.calls k4 x22_4 t231 t240 _ A70.out).mono ?_); rintro e w' ⟨rfl, ⟨nd, rfl⟩⟩))
                                          (first | go_roundg k4 | (simp only [add_plain] at *; go_roundg k4))
                                          case measure => have := HJ7.out; have := HK2.out; have := HJ32.out; have := HK4.out; omega
                                          case rel => exact ⟨(t240), (wrap64 (x23_4 + 1)), (by first | rfl | (simp; done) | (simp [*]; done)), (by first | rfl | (simp; done) | (simp [*]; done)), H', ⟨by have := HJ7.out; have := HK2.out; have := HJ32.out; have := HK4.out; omega⟩, ⟨by (with_reducible repeat (first | apply Kd.R_alloc | apply Kd.R_drewN | apply Kd.R_drew)); exact HO_13.out⟩, ⟨by (with_reducible repeat (first | apply Kd.R_alloc | apply Kd.R_drewN | apply Kd.R_drew)); exact HO_15.out⟩, ⟨by (with_reducible repeat (first | apply Kd.R_alloc | apply Kd.R_drewN | apply Kd.R_drew)); exact HO_17.out⟩, ⟨by (with_reducible repeat (first | apply Kd.R_alloc | apply Kd.R_drewN | apply Kd.R_drew)); exact HO_19.out⟩, ⟨by repeat (first | (with_reducible first | exact HB.out | apply below_alloc | apply pw_below_drewN | apply below_drew1) | exact HB.out)⟩⟩
                                        · rw [if_neg c69] at H
                                          have c69b0 : ((rd t227 x23_4) == t239) = false := beq_eq_false_iff_ne.mpr c69
                                          have c69b1 : ((rd t227 x23_4) != t239) = true := bne_iff_ne.mpr c69
                                          obtain rfl := Option.some.inj H
                                          exact absurd hr_.out (by decide)
                                      · rw [if_neg c67] at H
                                        exact absurd H (by simp)
                                    · rw [if_neg c66] at H
                                      have c66b0 : ((rd t223 x23_4) == t236) = false := beq_eq_false_iff_ne.mpr c66
                                      have c66b1 : ((rd t223 x23_4) != t236) = true := bne_iff_ne.mpr c66
                                      obtain rfl := Option.some.inj H
                                      exact absurd hr_.out (by decide)
                                  · rw [if_neg c63] at H
                                    exact absurd H (by simp)
                                · rw [if_neg c62] at H
                                  exact absurd H (by simp)
                              · rw [if_neg c61] at H
                                exact absurd H (by simp)
                            · rw [if_neg c60] at H
                              exact absurd H (by simp)
                          · rw [if_neg c59] at H
                            have c59b0 : decide (x23_4 < (l0.length : Int)) = false := decide_eq_false c59
                            clear c59
                            obtain rfl := Option.some.inj H
                            go_wp2
                            go_ret
                            exact ⟨by first | rfl | (simp [errW_none, errW_some] <;> rfl) | (simp [*, errW_none, errW_some] <;> rfl), by repeat (first | (with_reducible first | exact HB.out | apply below_alloc | apply pw_below_drewN | apply below_drew1) | exact HB.out)⟩
  · replace c6 := Bool.eq_false_iff.mpr c6
    subst c6
    have H1 : (some false) = some r := by rw [if_neg (show ¬ (false = true) by decide)] at H; exact H
    clear H
    have H := H1
    clear H1
    obtain rfl := Option.some.inj H
    exact absurd hr_.out (by decide)

/-- THE ONE PURE STATEMENT of abacistlaw09_HalvesLinear: yours. -/
def abacistlaw09_HalvesLinear.Pure : Prop := ∀ (l0 : List Int) (l1 : List Int) (a2 : Int) (a3 : Int), l0.length ≤ maxLen → l0.length * 8 ≤ 140737488351232 → (∀ x ∈ l0, (Lit.int .u64 x).wf = true) → l1.length ≤ maxLen → l1.length * 8 ≤ 140737488351232 → (∀ x ∈ l1, (Lit.int .u64 x).wf = true) → (Lit.int .u64 a2).wf = true → (Lit.int .i64 a3).wf = true → ∃ k, abacistlaw09_HalvesLinear.f k l0 l1 a2 a3 = some true
theorem abacistlaw09_HalvesLinear.walk (P : abacistlaw09_HalvesLinear.Pure) (a0 : Option Addr) (len0 cap0 : Nat) (z0 : List Int) (a1 : Option Addr) (len1 cap1 : Nat) (z1 : List Int) (a2 : Int) (a3 : Int) (w : World) (hG : Aside0 (TzTab w)) (w0 : (a0 = none ∧ len0 = 0 ∧ cap0 = 0 ∧ z0 = []) ∨ ∃ x, a0 = some x ∧ len0 ≤ cap0 ∧ cap0 ≤ maxLen ∧ z0.length = cap0 ∧ (∀ i, i < z0.length → w.cell? (x.add i) = some (.int .u64 (z0.getD i 0))) ∧ ∀ n ∈ z0, (Lit.int .u64 n).wf = true) (y0 : len0 * 8 ≤ 140737488351232) (w1 : (a1 = none ∧ len1 = 0 ∧ cap1 = 0 ∧ z1 = []) ∨ ∃ x, a1 = some x ∧ len1 ≤ cap1 ∧ cap1 ≤ maxLen ∧ z1.length = cap1 ∧ (∀ i, i < z1.length → w.cell? (x.add i) = some (.int .u64 (z1.getD i 0))) ∧ ∀ n ∈ z1, (Lit.int .u64 n).wf = true) (y1 : len1 * 8 ≤ 140737488351232) (w2 : (Lit.int .u64 a2).wf = true) (w3 : (Lit.int .i64 a3).wf = true) :
    Calls Tryd.prog 4 #[.slice a0 len0 cap0, .slice a1 len1 cap1, .int .u64 a2, .int .i64 a3] w fun e w' => e = .returned (.bool true) ∧ Below w.heap.size w w' := by
  obtain ⟨l0, rfl, hr0, hm0, hw0, hc0⟩ := ReadsInt.ofRowC w0
  obtain ⟨l1, rfl, hr1, hm1, hw1, hc1⟩ := ReadsInt.ofRowC w1
  obtain ⟨k, h⟩ := P l0 l1 a2 a3 hm0 y0 hw0 hm1 y1 hw1 w2 w3
  refine (abacistlaw09_HalvesLinear.calls k _ _ l0 _ _ l1 a2 a3 true ⟨rfl⟩ w (Kd.C_of_reads (d := (0 : Int)) (h1 := fun _ => rfl) hr0) hc0 (Kd.C_of_reads (d := (0 : Int)) (h1 := fun _ => rfl) hr1) hc1 hG h).mono ?_
  rintro e w' ⟨rfl, hd⟩
  exact ⟨rfl, hd⟩

end Go.Proofs.YtggmpdmlbjllhaaDoor.PHalvesLinear
