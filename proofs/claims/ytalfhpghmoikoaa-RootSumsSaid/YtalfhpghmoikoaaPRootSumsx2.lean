-- Written for this claim by wip/gen/mk.sh, this session's own driver over the kit's print
import Derived.Test.YtalfhpghmoikoaaPRootSumsx0
import Derived.Test.YtalfhpghmoikoaaPRootSumsx1
namespace Go.Proofs.Ytalfhpghmoikoaa.PRootSums
open Go.RowKit Go.Proofs.YtalfhpghmoikoaaW.PrintWords Go.Proofs.YtalfhpghmoikoaaW.PrintLast Go.Proofs.YtalfhpghmoikoaaW.PrintMore
attribute [local go_sem] max2_int min2_int max_two min_two max_three min_three max_four min_four   -- for this text's walks alone
set_option linter.unusedVariables false
set_option linter.unusedSimpArgs false

/-! ### abacistlaw03_RootSums: function 7 -/
mutual
def abacistlaw03_RootSums.j0 : Nat → List Int → Bool → Option (Bool)
  | 0, _, _ => none
  | k + 1, x8, x62 => if x62 = true then (some false) else (abacistlaw03_RootSums.l0 k x8 0 0)
def abacistlaw03_RootSums.l0 : Nat → List Int → Int → Int → Option (Bool)
  | 0, _, _, _ => none
  | k + 1, x8, x10, x11 => if x11 < (x8.length : Int) then (if 0 ≤ x11 then ((abacistref02_Add.f x10 (rd x8 x11)).bind fun t145 => (if x11 ≥ (wrap64 ((x8.length : Int) / 2)) then (if 0 ≤ (wrap64 (x11 - (wrap64 ((x8.length : Int) / 2)))) then (if (wrap64 (x11 - (wrap64 ((x8.length : Int) / 2)))) < (x8.length : Int) then ((abacistref02_Add.f (rd x8 x11) (rd x8 (wrap64 (x11 - (wrap64 ((x8.length : Int) / 2)))))).bind fun t148 => (abacistlaw03_RootSums.j2 k x8 t145 x11 (t148 != 0))) else (none)) else (none)) else (abacistlaw03_RootSums.j2 k x8 t145 x11 false))) else (none)) else (some (x10 == 0))
def abacistlaw03_RootSums.j2 : Nat → List Int → Int → Int → Bool → Option (Bool)
  | 0, _, _, _, _ => none
  | k + 1, x8, x10, x11, x95 => if x95 = true then (some false) else (abacistlaw03_RootSums.l1 k x8 x10 x11 0)
def abacistlaw03_RootSums.l1 : Nat → List Int → Int → Int → Int → Option (Bool)
  | 0, _, _, _, _ => none
  | k + 1, x8, x10, x11, x12 => if x12 < x11 then (if 0 ≤ x12 then (if x12 < (x8.length : Int) then (if 0 ≤ x11 then (if x11 < (x8.length : Int) then (if (rd x8 x12) = (rd x8 x11) then (some false) else (abacistlaw03_RootSums.l1 k x8 x10 x11 (wrap64 (x12 + 1)))) else (none)) else (none)) else (none)) else (none)) else (abacistlaw03_RootSums.l0 k x8 x10 (wrap64 (x11 + 1)))
end
def abacistlaw03_RootSums.f (k : Nat) (a0 : Int) : Option (Bool) := (abacistlaw03_awake.f k).bind fun t134 => (if t134 = true then ((root_Root.f k (wrap64 (1 + (Int.tmod (wrap64 (a0)) 6)))).bind fun bt135 => ((root_Root.f k (wrap64 ((wrap64 (1 + (Int.tmod (wrap64 (a0)) 6))) - 1))).bind fun bt137 => (if 0 ≤ (IntKind.u64.wrap (wrap64 (1 + (Int.tmod (wrap64 (a0)) 6)))) then ((root_Powers.f k bt135.1 (shl .i64 1 (IntKind.u64.wrap (wrap64 (1 + (Int.tmod (wrap64 (a0)) 6)))))).bind fun bt139 => (if bt135.2 = 0 then (if bt137.2 = 0 then (if bt139.2 = 0 then (if (bt139.1.length : Int) = (shl .i64 1 (IntKind.u64.wrap (wrap64 (1 + (Int.tmod (wrap64 (a0)) 6))))) then ((abacistref02_Mul.f k bt135.1 bt135.1).bind fun t143 => (abacistlaw03_RootSums.j0 k bt139.1 (t143 != bt137.1))) else (abacistlaw03_RootSums.j0 k bt139.1 true)) else (abacistlaw03_RootSums.j0 k bt139.1 true)) else (abacistlaw03_RootSums.j0 k bt139.1 true)) else (abacistlaw03_RootSums.j0 k bt139.1 true))) else (none)))) else (some false))
theorem abacistlaw03_RootSums.mono_l : ∀ k, (∀ y0 y1, LeO (abacistlaw03_RootSums.j0 k y0 y1) (abacistlaw03_RootSums.j0 (k + 1) y0 y1)) ∧ (∀ y0 y1 y2, LeO (abacistlaw03_RootSums.l0 k y0 y1 y2) (abacistlaw03_RootSums.l0 (k + 1) y0 y1 y2)) ∧ (∀ y0 y1 y2 y3, LeO (abacistlaw03_RootSums.j2 k y0 y1 y2 y3) (abacistlaw03_RootSums.j2 (k + 1) y0 y1 y2 y3)) ∧ (∀ y0 y1 y2 y3, LeO (abacistlaw03_RootSums.l1 k y0 y1 y2 y3) (abacistlaw03_RootSums.l1 (k + 1) y0 y1 y2 y3))
  | 0 => ⟨fun _ _ r h => by simp [abacistlaw03_RootSums.j0] at h, fun _ _ _ r h => by simp [abacistlaw03_RootSums.l0] at h, fun _ _ _ _ r h => by simp [abacistlaw03_RootSums.j2] at h, fun _ _ _ _ r h => by simp [abacistlaw03_RootSums.l1] at h⟩
  | k + 1 => by
    obtain ⟨ih0, ih1, ih2, ih3⟩ := abacistlaw03_RootSums.mono_l k
    refine ⟨?_, ?_, ?_, ?_⟩
    · intro y0 y1
      unfold abacistlaw03_RootSums.j0
      repeat' first
      | (with_reducible exact ih0 _ _)
      | (with_reducible exact ih1 _ _ _)
      | (with_reducible exact ih2 _ _ _ _)
      | (with_reducible exact ih3 _ _ _ _)
      | (with_reducible exact abacistlaw03_awake.mono _)
      | (with_reducible exact abacistref02_Mul.mono _ _ _)
      | (with_reducible exact root_Powers.mono _ _ _)
      | (with_reducible exact root_Root.mono _ _)
      | (with_reducible exact LeO.refl _)
      | (with_reducible exact LeO.none _)
      | (with_reducible refine LeO.ite ?_ ?_)
      | (with_reducible refine LeO.bind ?_ (fun _ => ?_))
      | exact ih0 _ _
      | exact ih1 _ _ _
      | exact ih2 _ _ _ _
      | exact ih3 _ _ _ _
      | exact abacistlaw03_awake.mono _
      | exact abacistref02_Mul.mono _ _ _
      | exact root_Powers.mono _ _ _
      | exact root_Root.mono _ _
      | exact LeO.none _
      | refine LeO.ite ?_ ?_
      | refine LeO.bind ?_ (fun _ => ?_)
    · intro y0 y1 y2
      unfold abacistlaw03_RootSums.l0
      repeat' first
      | (with_reducible exact ih0 _ _)
      | (with_reducible exact ih1 _ _ _)
      | (with_reducible exact ih2 _ _ _ _)
      | (with_reducible exact ih3 _ _ _ _)
      | (with_reducible exact abacistlaw03_awake.mono _)
      | (with_reducible exact abacistref02_Mul.mono _ _ _)
      | (with_reducible exact root_Powers.mono _ _ _)
      | (with_reducible exact root_Root.mono _ _)
      | (with_reducible exact LeO.refl _)
      | (with_reducible exact LeO.none _)
      | (with_reducible refine LeO.ite ?_ ?_)
      | (with_reducible refine LeO.bind ?_ (fun _ => ?_))
      | exact ih0 _ _
      | exact ih1 _ _ _
      | exact ih2 _ _ _ _
      | exact ih3 _ _ _ _
      | exact abacistlaw03_awake.mono _
      | exact abacistref02_Mul.mono _ _ _
      | exact root_Powers.mono _ _ _
      | exact root_Root.mono _ _
      | exact LeO.none _
      | refine LeO.ite ?_ ?_
      | refine LeO.bind ?_ (fun _ => ?_)
    · intro y0 y1 y2 y3
      unfold abacistlaw03_RootSums.j2
      repeat' first
      | (with_reducible exact ih0 _ _)
      | (with_reducible exact ih1 _ _ _)
      | (with_reducible exact ih2 _ _ _ _)
      | (with_reducible exact ih3 _ _ _ _)
      | (with_reducible exact abacistlaw03_awake.mono _)
      | (with_reducible exact abacistref02_Mul.mono _ _ _)
      | (with_reducible exact root_Powers.mono _ _ _)
      | (with_reducible exact root_Root.mono _ _)
      | (with_reducible exact LeO.refl _)
      | (with_reducible exact LeO.none _)
      | (with_reducible refine LeO.ite ?_ ?_)
      | (with_reducible refine LeO.bind ?_ (fun _ => ?_))
      | exact ih0 _ _
      | exact ih1 _ _ _
      | exact ih2 _ _ _ _
      | exact ih3 _ _ _ _
      | exact abacistlaw03_awake.mono _
      | exact abacistref02_Mul.mono _ _ _
      | exact root_Powers.mono _ _ _
      | exact root_Root.mono _ _
      | exact LeO.none _
      | refine LeO.ite ?_ ?_
      | refine LeO.bind ?_ (fun _ => ?_)
    · intro y0 y1 y2 y3
      unfold abacistlaw03_RootSums.l1
      repeat' first
      | (with_reducible exact ih0 _ _)
      | (with_reducible exact ih1 _ _ _)
      | (with_reducible exact ih2 _ _ _ _)
      | (with_reducible exact ih3 _ _ _ _)
      | (with_reducible exact abacistlaw03_awake.mono _)
      | (with_reducible exact abacistref02_Mul.mono _ _ _)
      | (with_reducible exact root_Powers.mono _ _ _)
      | (with_reducible exact root_Root.mono _ _)
      | (with_reducible exact LeO.refl _)
      | (with_reducible exact LeO.none _)
      | (with_reducible refine LeO.ite ?_ ?_)
      | (with_reducible refine LeO.bind ?_ (fun _ => ?_))
      | exact ih0 _ _
      | exact ih1 _ _ _
      | exact ih2 _ _ _ _
      | exact ih3 _ _ _ _
      | exact abacistlaw03_awake.mono _
      | exact abacistref02_Mul.mono _ _ _
      | exact root_Powers.mono _ _ _
      | exact root_Root.mono _ _
      | exact LeO.none _
      | refine LeO.ite ?_ ?_
      | refine LeO.bind ?_ (fun _ => ?_)
theorem abacistlaw03_RootSums.mono : ∀ a0 k, LeO (abacistlaw03_RootSums.f k a0) (abacistlaw03_RootSums.f (k + 1) a0) := by
  intro a0 k
  obtain ⟨ih0, ih1, ih2, ih3⟩ := abacistlaw03_RootSums.mono_l k
  unfold abacistlaw03_RootSums.f
  repeat' first
      | (with_reducible exact ih0 _ _)
      | (with_reducible exact ih1 _ _ _)
      | (with_reducible exact ih2 _ _ _ _)
      | (with_reducible exact ih3 _ _ _ _)
      | (with_reducible exact abacistlaw03_awake.mono _)
      | (with_reducible exact abacistref02_Mul.mono _ _ _)
      | (with_reducible exact root_Powers.mono _ _ _)
      | (with_reducible exact root_Root.mono _ _)
      | (with_reducible exact LeO.refl _)
      | (with_reducible exact LeO.none _)
      | (with_reducible refine LeO.ite ?_ ?_)
      | (with_reducible refine LeO.bind ?_ (fun _ => ?_))
      | exact ih0 _ _
      | exact ih1 _ _ _
      | exact ih2 _ _ _ _
      | exact ih3 _ _ _ _
      | exact abacistlaw03_awake.mono _
      | exact abacistref02_Mul.mono _ _ _
      | exact root_Powers.mono _ _ _
      | exact root_Root.mono _ _
      | exact LeO.none _
      | refine LeO.ite ?_ ?_
      | refine LeO.bind ?_ (fun _ => ?_)
set_option maxHeartbeats 80000000 in
set_option maxRecDepth 100000 in
theorem abacistlaw03_RootSums.calls (k : Nat) (a0 : Int) (r : Bool) (hr_ : Aside0 (r = true)) (w : World) (h : abacistlaw03_RootSums.f k a0 = some r) :
    Calls Try.prog 7 #[.int .u8 a0] w fun e w' => e = .returned (.bool r) ∧ Below w.heap.size w w' := by
  have HB := Aside0.mk (Below.refl w.heap.size w)
  have H : ((abacistlaw03_awake.f k).bind fun t134 => (if t134 = true then ((root_Root.f k (wrap64 (1 + (Int.tmod (wrap64 (a0)) 6)))).bind fun bt135 => ((root_Root.f k (wrap64 ((wrap64 (1 + (Int.tmod (wrap64 (a0)) 6))) - 1))).bind fun bt137 => (if 0 ≤ (IntKind.u64.wrap (wrap64 (1 + (Int.tmod (wrap64 (a0)) 6)))) then ((root_Powers.f k bt135.1 (shl .i64 1 (IntKind.u64.wrap (wrap64 (1 + (Int.tmod (wrap64 (a0)) 6)))))).bind fun bt139 => (if bt135.2 = 0 then (if bt137.2 = 0 then (if bt139.2 = 0 then (if (bt139.1.length : Int) = (shl .i64 1 (IntKind.u64.wrap (wrap64 (1 + (Int.tmod (wrap64 (a0)) 6))))) then ((abacistref02_Mul.f k bt135.1 bt135.1).bind fun t143 => (abacistlaw03_RootSums.j0 k bt139.1 (t143 != bt137.1))) else (abacistlaw03_RootSums.j0 k bt139.1 true)) else (abacistlaw03_RootSums.j0 k bt139.1 true)) else (abacistlaw03_RootSums.j0 k bt139.1 true)) else (abacistlaw03_RootSums.j0 k bt139.1 true))) else (none)))) else (some false))) = some r := h
  clear h
  replace H := Option.bind_eq_some_iff.mp H
  obtain ⟨t134, A20, H⟩ := H
  replace H : (if t134 = true then ((root_Root.f k (wrap64 (1 + (Int.tmod (wrap64 (a0)) 6)))).bind fun bt135 => ((root_Root.f k (wrap64 ((wrap64 (1 + (Int.tmod (wrap64 (a0)) 6))) - 1))).bind fun bt137 => (if 0 ≤ (IntKind.u64.wrap (wrap64 (1 + (Int.tmod (wrap64 (a0)) 6)))) then ((root_Powers.f k bt135.1 (shl .i64 1 (IntKind.u64.wrap (wrap64 (1 + (Int.tmod (wrap64 (a0)) 6)))))).bind fun bt139 => (if bt135.2 = 0 then (if bt137.2 = 0 then (if bt139.2 = 0 then (if (bt139.1.length : Int) = (shl .i64 1 (IntKind.u64.wrap (wrap64 (1 + (Int.tmod (wrap64 (a0)) 6))))) then ((abacistref02_Mul.f k bt135.1 bt135.1).bind fun t143 => (abacistlaw03_RootSums.j0 k bt139.1 (t143 != bt137.1))) else (abacistlaw03_RootSums.j0 k bt139.1 true)) else (abacistlaw03_RootSums.j0 k bt139.1 true)) else (abacistlaw03_RootSums.j0 k bt139.1 true)) else (abacistlaw03_RootSums.j0 k bt139.1 true))) else (none)))) else (some false)) = some r := H
  have A2 := Aside0.mk A20
  clear A20
  by_cases c3 : t134 = true
  · subst c3
    have H1 : ((root_Root.f k (wrap64 (1 + (Int.tmod (wrap64 (a0)) 6)))).bind fun bt135 => ((root_Root.f k (wrap64 ((wrap64 (1 + (Int.tmod (wrap64 (a0)) 6))) - 1))).bind fun bt137 => (if 0 ≤ (IntKind.u64.wrap (wrap64 (1 + (Int.tmod (wrap64 (a0)) 6)))) then ((root_Powers.f k bt135.1 (shl .i64 1 (IntKind.u64.wrap (wrap64 (1 + (Int.tmod (wrap64 (a0)) 6)))))).bind fun bt139 => (if bt135.2 = 0 then (if bt137.2 = 0 then (if bt139.2 = 0 then (if (bt139.1.length : Int) = (shl .i64 1 (IntKind.u64.wrap (wrap64 (1 + (Int.tmod (wrap64 (a0)) 6))))) then ((abacistref02_Mul.f k bt135.1 bt135.1).bind fun t143 => (abacistlaw03_RootSums.j0 k bt139.1 (t143 != bt137.1))) else (abacistlaw03_RootSums.j0 k bt139.1 true)) else (abacistlaw03_RootSums.j0 k bt139.1 true)) else (abacistlaw03_RootSums.j0 k bt139.1 true)) else (abacistlaw03_RootSums.j0 k bt139.1 true))) else (none)))) = some r := by rw [if_pos rfl] at H; exact H
    clear H
    have H := H1
    clear H1
    replace H := Option.bind_eq_some_iff.mp H
    obtain ⟨⟨t135, t136⟩, A40, H⟩ := H
    replace H : ((root_Root.f k (wrap64 ((wrap64 (1 + (Int.tmod (wrap64 (a0)) 6))) - 1))).bind fun bt137 => (if 0 ≤ (IntKind.u64.wrap (wrap64 (1 + (Int.tmod (wrap64 (a0)) 6)))) then ((root_Powers.f k t135 (shl .i64 1 (IntKind.u64.wrap (wrap64 (1 + (Int.tmod (wrap64 (a0)) 6)))))).bind fun bt139 => (if t136 = 0 then (if bt137.2 = 0 then (if bt139.2 = 0 then (if (bt139.1.length : Int) = (shl .i64 1 (IntKind.u64.wrap (wrap64 (1 + (Int.tmod (wrap64 (a0)) 6))))) then ((abacistref02_Mul.f k t135 t135).bind fun t143 => (abacistlaw03_RootSums.j0 k bt139.1 (t143 != bt137.1))) else (abacistlaw03_RootSums.j0 k bt139.1 true)) else (abacistlaw03_RootSums.j0 k bt139.1 true)) else (abacistlaw03_RootSums.j0 k bt139.1 true)) else (abacistlaw03_RootSums.j0 k bt139.1 true))) else (none))) = some r := H
    have A4 := Aside0.mk A40
    clear A40
    replace H := Option.bind_eq_some_iff.mp H
    obtain ⟨⟨t137, t138⟩, A50, H⟩ := H
    replace H : (if 0 ≤ (IntKind.u64.wrap (wrap64 (1 + (Int.tmod (wrap64 (a0)) 6)))) then ((root_Powers.f k t135 (shl .i64 1 (IntKind.u64.wrap (wrap64 (1 + (Int.tmod (wrap64 (a0)) 6)))))).bind fun bt139 => (if t136 = 0 then (if t138 = 0 then (if bt139.2 = 0 then (if (bt139.1.length : Int) = (shl .i64 1 (IntKind.u64.wrap (wrap64 (1 + (Int.tmod (wrap64 (a0)) 6))))) then ((abacistref02_Mul.f k t135 t135).bind fun t143 => (abacistlaw03_RootSums.j0 k bt139.1 (t143 != t137))) else (abacistlaw03_RootSums.j0 k bt139.1 true)) else (abacistlaw03_RootSums.j0 k bt139.1 true)) else (abacistlaw03_RootSums.j0 k bt139.1 true)) else (abacistlaw03_RootSums.j0 k bt139.1 true))) else (none)) = some r := H
    have A5 := Aside0.mk A50
    clear A50
    obtain ⟨ji6, hji6⟩ : ∃ j_ : Int, (IntKind.u64.wrap (wrap64 (1 + (Int.tmod (wrap64 (a0)) 6)))) = j_ := ⟨_, rfl⟩
    replace H : (if 0 ≤ (ji6) then ((root_Powers.f k t135 (shl .i64 1 (ji6))).bind fun bt139 => (if t136 = 0 then (if t138 = 0 then (if bt139.2 = 0 then (if (bt139.1.length : Int) = (shl .i64 1 (ji6)) then ((abacistref02_Mul.f k t135 t135).bind fun t143 => (abacistlaw03_RootSums.j0 k bt139.1 (t143 != t137))) else (abacistlaw03_RootSums.j0 k bt139.1 true)) else (abacistlaw03_RootSums.j0 k bt139.1 true)) else (abacistlaw03_RootSums.j0 k bt139.1 true)) else (abacistlaw03_RootSums.j0 k bt139.1 true))) else (none)) = some r := by first | (rw [hji6] at H; exact H) | (simp only [hji6] at H ⊢; exact H)
    (try rw [hji6] at A2)
    (try rw [hji6] at A4)
    (try rw [hji6] at A5)
    by_cases c7 : 0 ≤ (ji6)
    · rw [if_pos c7] at H
      have c7b0 := eq_true c7
      have c7b1 : decide (0 ≤ (ji6)) = true := decide_eq_true c7
      clear c7
      obtain ⟨ji8, hji8⟩ : ∃ j_ : Int, (shl .i64 1 (ji6)) = j_ := ⟨_, rfl⟩
      replace H : ((root_Powers.f k t135 (ji8)).bind fun bt139 => (if t136 = 0 then (if t138 = 0 then (if bt139.2 = 0 then (if (bt139.1.length : Int) = (ji8) then ((abacistref02_Mul.f k t135 t135).bind fun t143 => (abacistlaw03_RootSums.j0 k bt139.1 (t143 != t137))) else (abacistlaw03_RootSums.j0 k bt139.1 true)) else (abacistlaw03_RootSums.j0 k bt139.1 true)) else (abacistlaw03_RootSums.j0 k bt139.1 true)) else (abacistlaw03_RootSums.j0 k bt139.1 true))) = some r := by first | (rw [hji8] at H; exact H) | (simp only [hji8] at H ⊢; exact H)
      (try rw [hji8] at A2)
      (try rw [hji8] at A4)
      (try rw [hji8] at A5)
      have hji8_ : (IntKind.i64.wrap (1 * 2 ^ min (ji6).toNat 64)) = ji8 := hji8
      have hji8z : (ji6) ≤ 64 → (IntKind.i64.wrap (1 * 2 ^ (ji6).toNat)) = ji8 := shl_small hji8
      have hji8u : (IntKind.i64.wrap (2 ^ min (ji6).toNat 64)) = ji8 := by have h_ := hji8_; rw [Int.one_mul] at h_; exact h_
      have hji8v : (ji6) ≤ 64 → (IntKind.i64.wrap (2 ^ (ji6).toNat)) = ji8 := fun hle_ => by have h_ := hji8z hle_; rw [Int.one_mul] at h_; exact h_
      have hji8y : (wrap64 (1 * 2 ^ min (ji6).toNat 64)) = ji8 := (i64_w _).symm.trans hji8_
      have hji8x : (ji6) ≤ 64 → (wrap64 (1 * 2 ^ (ji6).toNat)) = ji8 := fun h_ => (i64_w _).symm.trans (hji8z h_)
      replace H := Option.bind_eq_some_iff.mp H
      obtain ⟨⟨t139, t140⟩, A90, H⟩ := H
      replace H : (if t136 = 0 then (if t138 = 0 then (if t140 = 0 then (if (t139.length : Int) = (ji8) then ((abacistref02_Mul.f k t135 t135).bind fun t143 => (abacistlaw03_RootSums.j0 k t139 (t143 != t137))) else (abacistlaw03_RootSums.j0 k t139 true)) else (abacistlaw03_RootSums.j0 k t139 true)) else (abacistlaw03_RootSums.j0 k t139 true)) else (abacistlaw03_RootSums.j0 k t139 true)) = some r := H
      have A9 := Aside0.mk A90
      clear A90
      have HC10 := Aside0.mk H
      clear H
      go_enter Try.func7, Try.ntmps7
      go_upto_region 7 with (first | (go_at_call 25; (with_reducible refine (abacistlaw03_awake.calls k  true _ A2.out).mono ?_); rintro e w11 ⟨rfl, hb⟩; have n0_ := Aside0.mk (below_step (by repeat (first | (with_reducible first | exact HB.out | apply below_alloc | apply pw_below_drewN | apply below_drew1) | exact HB.out)) hb); clear HB; have HB := n0_; clear n0_; (try clear hb); (try clear hb2); (try clear hk); (try clear hi)) | (go_at_call 28; (with_reducible refine (root_Root.calls k (wrap64 (1 + (Int.tmod (wrap64 (a0)) 6))) t135 t136 _ A4.out).mono ?_); rintro e w12 ⟨rfl, hb⟩; have n0_ := Aside0.mk (below_step (by repeat (first | (with_reducible first | exact HB.out | apply below_alloc | apply pw_below_drewN | apply below_drew1) | exact HB.out)) hb); clear HB; have HB := n0_; clear n0_; (try clear hb); (try clear hb2); (try clear hk); (try clear hi)) | (go_at_call 28; (with_reducible refine (root_Root.calls k (wrap64 ((wrap64 (1 + (Int.tmod (wrap64 (a0)) 6))) - 1)) t137 t138 _ A5.out).mono ?_); rintro e w13 ⟨rfl, hb⟩; have n0_ := Aside0.mk (below_step (by repeat (first | (with_reducible first | exact HB.out | apply below_alloc | apply pw_below_drewN | apply below_drew1) | exact HB.out)) hb); clear HB; have HB := n0_; clear n0_; (try clear hb); (try clear hb2); (try clear hk); (try clear hi)) | (go_at_call 26; (with_reducible refine (root_Powers.calls k t135 ji8 t139 t140 _ A9.out).mono ?_); rintro e w14 ⟨v141, rfl, ho0, hb⟩; have n0_ := Aside0.mk (Kd.R_lower ho0 (below_size (by repeat (first | (with_reducible first | exact HB.out | apply below_alloc | apply pw_below_drewN | apply below_drew1) | exact HB.out)))); have n1_ := Aside0.mk (below_step (by repeat (first | (with_reducible first | exact HB.out | apply below_alloc | apply pw_below_drewN | apply below_drew1) | exact HB.out)) hb); clear HB; have HO142 := n0_; have HB := n1_; clear n0_ n1_; (try clear hb); (try clear hb2); (try clear hk); (try clear hi); (try clear ho0)))
      repeat (go_quiet (first | (go_at_call 25; (with_reducible refine (abacistlaw03_awake.calls k  true _ A2.out).mono ?_); rintro e w11 ⟨rfl, hb⟩; have n0_ := Aside0.mk (below_step (by repeat (first | (with_reducible first | exact HB.out | apply below_alloc | apply pw_below_drewN | apply below_drew1) | exact HB.out)) hb); clear HB; have HB := n0_; clear n0_; (try clear hb); (try clear hb2); (try clear hk); (try clear hi)) | (go_at_call 28; (with_reducible refine (root_Root.calls k (wrap64 (1 + (Int.tmod (wrap64 (a0)) 6))) t135 t136 _ A4.out).mono ?_); rintro e w12 ⟨rfl, hb⟩; have n0_ := Aside0.mk (below_step (by repeat (first | (with_reducible first | exact HB.out | apply below_alloc | apply pw_below_drewN | apply below_drew1) | exact HB.out)) hb); clear HB; have HB := n0_; clear n0_; (try clear hb); (try clear hb2); (try clear hk); (try clear hi)) | (go_at_call 28; (with_reducible refine (root_Root.calls k (wrap64 ((wrap64 (1 + (Int.tmod (wrap64 (a0)) 6))) - 1)) t137 t138 _ A5.out).mono ?_); rintro e w13 ⟨rfl, hb⟩; have n0_ := Aside0.mk (below_step (by repeat (first | (with_reducible first | exact HB.out | apply below_alloc | apply pw_below_drewN | apply below_drew1) | exact HB.out)) hb); clear HB; have HB := n0_; clear n0_; (try clear hb); (try clear hb2); (try clear hk); (try clear hi)) | (go_at_call 26; (with_reducible refine (root_Powers.calls k t135 ji8 t139 t140 _ A9.out).mono ?_); rintro e w14 ⟨v141, rfl, ho0, hb⟩; have n0_ := Aside0.mk (Kd.R_lower ho0 (below_size (by repeat (first | (with_reducible first | exact HB.out | apply below_alloc | apply pw_below_drewN | apply below_drew1) | exact HB.out)))); have n1_ := Aside0.mk (below_step (by repeat (first | (with_reducible first | exact HB.out | apply below_alloc | apply pw_below_drewN | apply below_drew1) | exact HB.out)) hb); clear HB; have HO142 := n0_; have HB := n1_; clear n0_ n1_; (try clear hb); (try clear hb2); (try clear hk); (try clear hi); (try clear ho0))); go_upto_region 7 with (first | (go_at_call 25; (with_reducible refine (abacistlaw03_awake.calls k  true _ A2.out).mono ?_); rintro e w11 ⟨rfl, hb⟩; have n0_ := Aside0.mk (below_step (by repeat (first | (with_reducible first | exact HB.out | apply below_alloc | apply pw_below_drewN | apply below_drew1) | exact HB.out)) hb); clear HB; have HB := n0_; clear n0_; (try clear hb); (try clear hb2); (try clear hk); (try clear hi)) | (go_at_call 28; (with_reducible refine (root_Root.calls k (wrap64 (1 + (Int.tmod (wrap64 (a0)) 6))) t135 t136 _ A4.out).mono ?_); rintro e w12 ⟨rfl, hb⟩; have n0_ := Aside0.mk (below_step (by repeat (first | (with_reducible first | exact HB.out | apply below_alloc | apply pw_below_drewN | apply below_drew1) | exact HB.out)) hb); clear HB; have HB := n0_; clear n0_; (try clear hb); (try clear hb2); (try clear hk); (try clear hi)) | (go_at_call 28; (with_reducible refine (root_Root.calls k (wrap64 ((wrap64 (1 + (Int.tmod (wrap64 (a0)) 6))) - 1)) t137 t138 _ A5.out).mono ?_); rintro e w13 ⟨rfl, hb⟩; have n0_ := Aside0.mk (below_step (by repeat (first | (with_reducible first | exact HB.out | apply below_alloc | apply pw_below_drewN | apply below_drew1) | exact HB.out)) hb); clear HB; have HB := n0_; clear n0_; (try clear hb); (try clear hb2); (try clear hk); (try clear hi)) | (go_at_call 26; (with_reducible refine (root_Powers.calls k t135 ji8 t139 t140 _ A9.out).mono ?_); rintro e w14 ⟨v141, rfl, ho0, hb⟩; have n0_ := Aside0.mk (Kd.R_lower ho0 (below_size (by repeat (first | (with_reducible first | exact HB.out | apply below_alloc | apply pw_below_drewN | apply below_drew1) | exact HB.out)))); have n1_ := Aside0.mk (below_step (by repeat (first | (with_reducible first | exact HB.out | apply below_alloc | apply pw_below_drewN | apply below_drew1) | exact HB.out)) hb); clear HB; have HO142 := n0_; have HB := n1_; clear n0_ n1_; (try clear hb); (try clear hb2); (try clear hk); (try clear hi); (try clear ho0))))
      (try simp only [Act.put, List.setIfInBounds_toArray, List.set_cons_zero, List.set_cons_succ])
      go_cut [62] (fun v62 wc => ∃ (kq : Nat) (x62_9 : Bool), v62 = .bool x62_9 ∧ Aside0 (abacistlaw03_RootSums.j0 kq t139 x62_9 = some r) ∧ Aside0 (kq ≤ k) ∧ Aside0 (Kd.R (Kd.int .u64) 22 wc w.heap.size (fun _ => True) v141 t139) ∧ Aside0 (Below w.heap.size w wc))
      case first =>
        have H := HC10.out
        clear HC10
        by_cases c15 : t136 = 0
        · rw [if_pos c15] at H
          have c15b0 : (t136 == 0) = true := beq_iff_eq.mpr c15
          have c15b1 : (t136 != 0) = false := bne_eq_false_iff_eq.mpr c15
          clear c15
          (first | rw [c15b0] | (simp only [i64_w, i32_w]; rw [c15b0]) | skip)
          by_cases c16 : t138 = 0
          · rw [if_pos c16] at H
            have c16b0 : (t138 == 0) = true := beq_iff_eq.mpr c16
            have c16b1 : (t138 != 0) = false := bne_eq_false_iff_eq.mpr c16
            clear c16
            by_cases c17 : t140 = 0
            · rw [if_pos c17] at H
              have c17b0 : (t140 == 0) = true := beq_iff_eq.mpr c17
              have c17b1 : (t140 != 0) = false := bne_eq_false_iff_eq.mpr c17
              clear c17
              have c18b0 := eq_true (of_decide_eq_true (by first | (with_reducible assumption) | assumption) : 0 ≤ (ji6))
              by_cases c19 : (t139.length : Int) = (ji8)
              · rw [if_pos c19] at H
                have c19b0 : ((t139.length : Int) == (ji8)) = true := beq_iff_eq.mpr c19
                have c19b1 : ((t139.length : Int) != (ji8)) = false := bne_eq_false_iff_eq.mpr c19
                clear c19
                replace H := Option.bind_eq_some_iff.mp H
                obtain ⟨t143, A200, H⟩ := H
                replace H : (abacistlaw03_RootSums.j0 k t139 (t143 != t137)) = some r := H
                have A20 := Aside0.mk A200
                clear A200
                have H' := Aside0.mk H
                clear H
                obtain ⟨Ao21, co21, eo21⟩ := Kd.R_slice HO142.out
                subst eo21
                go_wp2_with (first | (go_at_call 24; (with_reducible refine (abacistref02_Mul.calls k t135 t135 t143 _ A20.out).mono ?_); rintro e w' ⟨rfl, ⟨nd, rfl⟩⟩; (try first | exact ⟨rfl, _, World.drewN_drewN _ _ _⟩ | exact ⟨rfl, _, Eq.trans (World.drewN_drewN _ _ _) (congrArg (World.drewN _) (Nat.add_assoc _ _ _))⟩)))
                repeat (go_quiet (first | (go_at_call 24; (with_reducible refine (abacistref02_Mul.calls k t135 t135 t143 _ A20.out).mono ?_); rintro e w' ⟨rfl, ⟨nd, rfl⟩⟩; (try first | exact ⟨rfl, _, World.drewN_drewN _ _ _⟩ | exact ⟨rfl, _, Eq.trans (World.drewN_drewN _ _ _) (congrArg (World.drewN _) (Nat.add_assoc _ _ _))⟩))); try go_wp2_with (first | (go_at_call 24; (with_reducible refine (abacistref02_Mul.calls k t135 t135 t143 _ A20.out).mono ?_); rintro e w' ⟨rfl, ⟨nd, rfl⟩⟩; (try first | exact ⟨rfl, _, World.drewN_drewN _ _ _⟩ | exact ⟨rfl, _, Eq.trans (World.drewN_drewN _ _ _) (congrArg (World.drewN _) (Nat.add_assoc _ _ _))⟩))))
                go_meet
                case rel => exact ⟨_, ((t143 != t137)), (by first | rfl | (simp; done) | (simp [*]; done)), H', ⟨by first | omega | exact Nat.le_refl _⟩, ⟨by (with_reducible repeat (first | apply Kd.R_alloc | apply Kd.R_drewN | apply Kd.R_drew)); exact HO142.out⟩, ⟨by repeat (first | (with_reducible first | exact HB.out | apply below_alloc | apply pw_below_drewN | apply below_drew1) | exact HB.out)⟩⟩
              · rw [if_neg c19] at H
                have c19b0 : ((t139.length : Int) == (ji8)) = false := beq_eq_false_iff_ne.mpr c19
                have c19b1 : ((t139.length : Int) != (ji8)) = true := bne_iff_ne.mpr c19
                have H' := Aside0.mk H
                clear H
                obtain ⟨Ao22, co22, eo22⟩ := Kd.R_slice HO142.out
                subst eo22
                go_wp2
                repeat (go_quiet (fail); try go_wp2)
                go_meet
                case rel => exact ⟨_, (true), (by first | rfl | (simp; done) | (simp [*]; done)), H', ⟨by first | omega | exact Nat.le_refl _⟩, ⟨by (with_reducible repeat (first | apply Kd.R_alloc | apply Kd.R_drewN | apply Kd.R_drew)); exact HO142.out⟩, ⟨by repeat (first | (with_reducible first | exact HB.out | apply below_alloc | apply pw_below_drewN | apply below_drew1) | exact HB.out)⟩⟩
            · rw [if_neg c17] at H
              have c17b0 : (t140 == 0) = false := beq_eq_false_iff_ne.mpr c17
              have c17b1 : (t140 != 0) = true := bne_iff_ne.mpr c17
              have H' := Aside0.mk H
              clear H
              go_wp2
              repeat (go_quiet (fail); try go_wp2)
              go_meet
              case rel => exact ⟨_, (true), (by first | rfl | (simp; done) | (simp [*]; done)), H', ⟨by first | omega | exact Nat.le_refl _⟩, ⟨by (with_reducible repeat (first | apply Kd.R_alloc | apply Kd.R_drewN | apply Kd.R_drew)); exact HO142.out⟩, ⟨by repeat (first | (with_reducible first | exact HB.out | apply below_alloc | apply pw_below_drewN | apply below_drew1) | exact HB.out)⟩⟩
          · rw [if_neg c16] at H
            have c16b0 : (t138 == 0) = false := beq_eq_false_iff_ne.mpr c16
            have c16b1 : (t138 != 0) = true := bne_iff_ne.mpr c16
            have H' := Aside0.mk H
            clear H
            go_wp2
            repeat (go_quiet (fail); try go_wp2)
            go_meet
            case rel => exact ⟨_, (true), (by first | rfl | (simp; done) | (simp [*]; done)), H', ⟨by first | omega | exact Nat.le_refl _⟩, ⟨by (with_reducible repeat (first | apply Kd.R_alloc | apply Kd.R_drewN | apply Kd.R_drew)); exact HO142.out⟩, ⟨by repeat (first | (with_reducible first | exact HB.out | apply below_alloc | apply pw_below_drewN | apply below_drew1) | exact HB.out)⟩⟩
        · rw [if_neg c15] at H
          have c15b0 : (t136 == 0) = false := beq_eq_false_iff_ne.mpr c15
          have c15b1 : (t136 != 0) = true := bne_iff_ne.mpr c15
          (first | rw [c15b0] | (simp only [i64_w, i32_w]; rw [c15b0]) | skip)
          have H' := Aside0.mk H
          clear H
          go_wp2
          repeat (go_quiet (fail); try go_wp2)
          go_meet
          case rel => exact ⟨_, (true), (by first | rfl | (simp; done) | (simp [*]; done)), H', ⟨by first | omega | exact Nat.le_refl _⟩, ⟨by (with_reducible repeat (first | apply Kd.R_alloc | apply Kd.R_drewN | apply Kd.R_drew)); exact HO142.out⟩, ⟨by repeat (first | (with_reducible first | exact HB.out | apply below_alloc | apply pw_below_drewN | apply below_drew1) | exact HB.out)⟩⟩
      case rest =>
        clear HC10
        try clear c1
        try clear p2
        try clear c3
        try clear p6
        try clear c7
        try clear c7b0
        try clear c7b1
        try clear c15
        try clear c15b0
        try clear c15b1
        try clear c16
        try clear c16b0
        try clear c16b1
        try clear c17
        try clear c17b0
        try clear c17b1
        try clear c18
        try clear c18b0
        try clear c19
        try clear c19b0
        try clear c19b1
        obtain ⟨kq, x62_9, rfl, HA, HJ9, HO_8, HB⟩ := hcut
        cases kq with
        | zero => exact absurd HA.out (by simp [abacistlaw03_RootSums.j0])
        | succ kj9 =>
          have H := HA.out
          clear HA
          simp only [abacistlaw03_RootSums.j0] at H
          by_cases c23 : x62_9 = true
          · subst c23
            have H1 : (some false) = some r := by rw [if_pos rfl] at H; exact H
            clear H
            have H := H1
            clear H1
            obtain rfl := Option.some.inj H
            exact absurd hr_.out (by decide)
          · replace c23 := Bool.eq_false_iff.mpr c23
            subst c23
            have H1 : (abacistlaw03_RootSums.l0 kj9 t139 0 0) = some r := by rw [if_neg (show ¬ (false = true) by decide)] at H; exact H
            clear H
            have H := H1
            clear H1
            have H' := Aside0.mk H
            clear H
            go_wp2
            repeat (go_quiet (fail); try go_wp2)
            go_loopg [10, 11] kj9 (fun kq v10 v11 w' => ∃ (x10_2 : Int) (x11_2 : Int), v10 = .int .u64 x10_2 ∧ v11 = .int .i64 x11_2 ∧ Aside0 (abacistlaw03_RootSums.l0 kq t139 x10_2 x11_2 = some r) ∧ Aside0 (kq ≤ kj9) ∧ Aside0 (Kd.R (Kd.int .u64) 22 w' w.heap.size (fun _ => True) v141 t139) ∧ Aside0 (Below w.heap.size w w'))
            case atStart => exact ⟨(0), (0), (by first | rfl | (simp; done) | (simp [*]; done)), (by first | rfl | (simp; done) | (simp [*]; done)), H', ⟨Nat.le_refl _⟩, ⟨by (with_reducible repeat (first | apply Kd.R_alloc | apply Kd.R_drewN | apply Kd.R_drew)); exact HO_8.out⟩, ⟨by repeat (first | (with_reducible first | exact HB.out | apply below_alloc | apply pw_below_drewN | apply below_drew1) | exact HB.out)⟩⟩
            case round =>
              clear H'
              try clear c1
              try clear c2
              try clear p2
              try clear c3
              try clear p6
              try clear c7
              try clear c7b0
              try clear c7b1
              try clear c15
              try clear c15b0
              try clear c15b1
              try clear c16
              try clear c16b0
              try clear c16b1
              try clear c17
              try clear c17b0
              try clear c17b1
              try clear c18
              try clear c18b0
              try clear c19
              try clear c19b0
              try clear c19b1
              try clear c23
              try clear p2
              try clear p6
              obtain ⟨x10_2, x11_2, rfl, rfl, HA, HK2, HO_8, HB⟩ := hrel
              cases gk with
              | zero => exact absurd HA.out (by simp [abacistlaw03_RootSums.l0])
              | succ k2 =>
                have H := HA.out
                clear HA
                simp only [abacistlaw03_RootSums.l0] at H
                by_cases c24 : x11_2 < (t139.length : Int)
                · rw [if_pos c24] at H
                  have c24b0 : decide (x11_2 < (t139.length : Int)) = true := decide_eq_true c24
                  clear c24
                  by_cases c25 : 0 ≤ x11_2
                  · rw [if_pos c25] at H
                    have c25b0 : decide (0 ≤ x11_2) = true := decide_eq_true c25
                    clear c25
                    replace H := Option.bind_eq_some_iff.mp H
                    obtain ⟨t145, A260, H⟩ := H
                    replace H : (if x11_2 ≥ (wrap64 ((t139.length : Int) / 2)) then (if 0 ≤ (wrap64 (x11_2 - (wrap64 ((t139.length : Int) / 2)))) then (if (wrap64 (x11_2 - (wrap64 ((t139.length : Int) / 2)))) < (t139.length : Int) then ((abacistref02_Add.f (rd t139 x11_2) (rd t139 (wrap64 (x11_2 - (wrap64 ((t139.length : Int) / 2)))))).bind fun t148 => (abacistlaw03_RootSums.j2 k2 t139 t145 x11_2 (t148 != 0))) else (none)) else (none)) else (abacistlaw03_RootSums.j2 k2 t139 t145 x11_2 false)) = some r := H
                    have A26 := Aside0.mk A260
                    clear A260
                    have HC27 := Aside0.mk H
                    clear H
                    obtain ⟨Ao28, co28, eo28⟩ := Kd.R_slice HO_8.out
                    subst eo28
                    have p144 : 0 ≤ (x11_2 : Int) := of_decide_eq_true (by first | (with_reducible assumption) | assumption)
                    have q144 : x11_2 < (t139.length : Int) := of_decide_eq_true (by first | (with_reducible assumption) | assumption)
                    obtain ⟨ad144, e144, hx144_0⟩ := Kd.at_int (Kd.R_reads' HO_8.out).2.2 x11_2 p144 q144
                    cases e144
                    replace p144 := eq_true p144
                    replace q144 := eq_true q144
                    go_upto_region 14 with (first | (go_at_call 29; (with_reducible refine (abacistref02_Add.calls x10_2 (rd t139 x11_2) t145 _ A26.out).mono ?_); rintro e w' ⟨rfl, ⟨nd, rfl⟩⟩; (try first | exact ⟨rfl, _, World.drewN_drewN _ _ _⟩ | exact ⟨rfl, _, Eq.trans (World.drewN_drewN _ _ _) (congrArg (World.drewN _) (Nat.add_assoc _ _ _))⟩)))
                    repeat (go_quiet (first | (go_at_call 29; (with_reducible refine (abacistref02_Add.calls x10_2 (rd t139 x11_2) t145 _ A26.out).mono ?_); rintro e w' ⟨rfl, ⟨nd, rfl⟩⟩; (try first | exact ⟨rfl, _, World.drewN_drewN _ _ _⟩ | exact ⟨rfl, _, Eq.trans (World.drewN_drewN _ _ _) (congrArg (World.drewN _) (Nat.add_assoc _ _ _))⟩))); go_upto_region 14 with (first | (go_at_call 29; (with_reducible refine (abacistref02_Add.calls x10_2 (rd t139 x11_2) t145 _ A26.out).mono ?_); rintro e w' ⟨rfl, ⟨nd, rfl⟩⟩; (try first | exact ⟨rfl, _, World.drewN_drewN _ _ _⟩ | exact ⟨rfl, _, Eq.trans (World.drewN_drewN _ _ _) (congrArg (World.drewN _) (Nat.add_assoc _ _ _))⟩))))
                    (try simp only [Act.put, List.setIfInBounds_toArray, List.set_cons_zero, List.set_cons_succ])
                    go_cut [95] (fun v95 wc => ∃ (kq : Nat) (x95_26 : Bool), v95 = .bool x95_26 ∧ Aside0 (abacistlaw03_RootSums.j2 kq t139 t145 x11_2 x95_26 = some r) ∧ Aside0 (kq ≤ k2) ∧ Aside0 (Kd.R (Kd.int .u64) 22 wc w.heap.size (fun _ => True) (.slice (some ad144) t139.length co28) t139) ∧ Aside0 (Below w.heap.size w wc))
                    case first =>
                      have H := HC27.out
                      clear HC27
                      by_cases c29 : x11_2 ≥ (wrap64 ((t139.length : Int) / 2))
                      · rw [if_pos c29] at H
                        have c29b0 : decide ((wrap64 ((t139.length : Int) / 2)) ≤ x11_2) = true := decide_eq_true c29
                        clear c29
                        (first | rw [c29b0] | (simp only [i64_w, i32_w]; rw [c29b0]) | skip)
                        obtain ⟨ji30, hji30⟩ : ∃ j_ : Int, (wrap64 (x11_2 - (wrap64 ((t139.length : Int) / 2)))) = j_ := ⟨_, rfl⟩
                        replace H : (if 0 ≤ (ji30) then (if (ji30) < (t139.length : Int) then ((abacistref02_Add.f (rd t139 x11_2) (rd t139 (ji30))).bind fun t148 => (abacistlaw03_RootSums.j2 k2 t139 t145 x11_2 (t148 != 0))) else (none)) else (none)) = some r := by first | (rw [hji30] at H; exact H) | (simp only [hji30] at H ⊢; exact H)
                        have hji30w : (IntKind.i64.wrap (x11_2 - (wrap64 ((t139.length : Int) / 2)))) = ji30 := (i64_w _).trans hji30
                        by_cases c31 : 0 ≤ (ji30)
                        · rw [if_pos c31] at H
                          have c31b0 : decide (0 ≤ (ji30)) = true := decide_eq_true c31
                          clear c31
                          by_cases c32 : (ji30) < (t139.length : Int)
                          · rw [if_pos c32] at H
                            have c32b0 : decide ((ji30) < (t139.length : Int)) = true := decide_eq_true c32
                            clear c32
                            replace H := Option.bind_eq_some_iff.mp H
                            obtain ⟨t148, A330, H⟩ := H
                            replace H : (abacistlaw03_RootSums.j2 k2 t139 t145 x11_2 (t148 != 0)) = some r := H
                            have A33 := Aside0.mk A330
                            clear A330
                            have H' := Aside0.mk H
                            clear H
                            have p146 : 0 ≤ (x11_2 : Int) := of_decide_eq_true (by first | (with_reducible assumption) | assumption)
                            have q146 : x11_2 < (t139.length : Int) := of_decide_eq_true (by first | (with_reducible assumption) | assumption)
                            obtain ⟨ad146, e146, hx146_0⟩ := Kd.at_int (Kd.R_reads' HO_8.out).2.2 x11_2 p146 q146
                            obtain rfl : ad144 = ad146 := (by injection e146)
                            replace p146 := eq_true p146
                            replace q146 := eq_true q146
                            have p147 : 0 ≤ ((ji30) : Int) := of_decide_eq_true (by first | (with_reducible assumption) | assumption)
                            have q147 : (ji30) < (t139.length : Int) := of_decide_eq_true (by first | (with_reducible assumption) | assumption)
                            obtain ⟨ad147, e147, hx147_0⟩ := Kd.at_int (Kd.R_reads' HO_8.out).2.2 (ji30) p147 q147
                            obtain rfl : ad144 = ad147 := (by injection e147)
                            replace p147 := eq_true p147
                            replace q147 := eq_true q147
                            go_wp2_with (first | (go_at_call 29; (with_reducible refine (abacistref02_Add.calls (rd t139 x11_2) (rd t139 (ji30)) t148 _ A33.out).mono ?_); rintro e w' ⟨rfl, ⟨nd, rfl⟩⟩; (try first | exact ⟨rfl, _, World.drewN_drewN _ _ _⟩ | exact ⟨rfl, _, Eq.trans (World.drewN_drewN _ _ _) (congrArg (World.drewN _) (Nat.add_assoc _ _ _))⟩)))
                            repeat (go_quiet (first | (go_at_call 29; (with_reducible refine (abacistref02_Add.calls (rd t139 x11_2) (rd t139 (ji30)) t148 _ A33.out).mono ?_); rintro e w' ⟨rfl, ⟨nd, rfl⟩⟩; (try first | exact ⟨rfl, _, World.drewN_drewN _ _ _⟩ | exact ⟨rfl, _, Eq.trans (World.drewN_drewN _ _ _) (congrArg (World.drewN _) (Nat.add_assoc _ _ _))⟩))); try go_wp2_with (first | (go_at_call 29; (with_reducible refine (abacistref02_Add.calls (rd t139 x11_2) (rd t139 (ji30)) t148 _ A33.out).mono ?_); rintro e w' ⟨rfl, ⟨nd, rfl⟩⟩; (try first | exact ⟨rfl, _, World.drewN_drewN _ _ _⟩ | exact ⟨rfl, _, Eq.trans (World.drewN_drewN _ _ _) (congrArg (World.drewN _) (Nat.add_assoc _ _ _))⟩))))
                            go_meet
                            case rel => exact ⟨_, ((t148 != 0)), (by first | rfl | (simp; done) | (simp [*]; done)), H', ⟨by have := HJ9.out; have := HK2.out; first | omega | exact Nat.le_refl _⟩, ⟨by (with_reducible repeat (first | apply Kd.R_alloc | apply Kd.R_drewN | apply Kd.R_drew)); exact HO_8.out⟩, ⟨by repeat (first | (with_reducible first | exact HB.out | apply below_alloc | apply pw_below_drewN | apply below_drew1) | exact HB.out)⟩⟩
                          · rw [if_neg c32] at H
                            exact absurd H (by simp)
                        · rw [if_neg c31] at H
                          exact absurd H (by simp)
                      · rw [if_neg c29] at H
                        have c29b0 : decide ((wrap64 ((t139.length : Int) / 2)) ≤ x11_2) = false := decide_eq_false c29
                        clear c29
                        (first | rw [c29b0] | (simp only [i64_w, i32_w]; rw [c29b0]) | skip)
                        have H' := Aside0.mk H
                        clear H
                        go_wp2
                        repeat (go_quiet (fail); try go_wp2)
                        go_meet
                        case rel => exact ⟨_, (false), (by first | rfl | (simp; done) | (simp [*]; done)), H', ⟨by have := HJ9.out; have := HK2.out; first | omega | exact Nat.le_refl _⟩, ⟨by (with_reducible repeat (first | apply Kd.R_alloc | apply Kd.R_drewN | apply Kd.R_drew)); exact HO_8.out⟩, ⟨by repeat (first | (with_reducible first | exact HB.out | apply below_alloc | apply pw_below_drewN | apply below_drew1) | exact HB.out)⟩⟩
                    case rest =>
                      clear HC27
                      try clear c1
                      try clear p1
                      try clear q1
                      try clear hx1
                      try clear c2
                      try clear p2
                      try clear c3
                      try clear p6
                      try clear c7
                      try clear c7b0
                      try clear c7b1
                      try clear p14
                      try clear q14
                      try clear hx14
                      try clear c15
                      try clear c15b0
                      try clear c15b1
                      try clear c16
                      try clear c16b0
                      try clear c16b1
                      try clear c17
                      try clear c17b0
                      try clear c17b1
                      try clear c18
                      try clear c18b0
                      try clear c19
                      try clear c19b0
                      try clear c19b1
                      try clear c23
                      try clear c24
                      try clear c24b0
                      try clear c25
                      try clear c25b0
                      try clear c29
                      try clear c29b0
                      try clear c31
                      try clear c31b0
                      try clear c32
                      try clear c32b0
                      try clear hx144_0
                      try clear hx146_0
                      try clear hx147_0
                      try clear p144
                      try clear p146
                      try clear p147
                      try clear p2
                      try clear p6
                      try clear q144
                      try clear q146
                      try clear q147
                      obtain ⟨kq, x95_26, rfl, HA, HJ26, HO_8, HB⟩ := hcut
                      cases kq with
                      | zero => exact absurd HA.out (by simp [abacistlaw03_RootSums.j2])
                      | succ kj26 =>
                        have H := HA.out
                        clear HA
                        simp only [abacistlaw03_RootSums.j2] at H
                        by_cases c34 : x95_26 = true
                        · subst c34
                          have H1 : (some false) = some r := by rw [if_pos rfl] at H; exact H
                          clear H
                          have H := H1
                          clear H1
                          obtain rfl := Option.some.inj H
                          exact absurd hr_.out (by decide)
                        · replace c34 := Bool.eq_false_iff.mpr c34
                          subst c34
                          have H1 : (abacistlaw03_RootSums.l1 kj26 t139 t145 x11_2 0) = some r := by rw [if_neg (show ¬ (false = true) by decide)] at H; exact H
                          clear H
                          have H := H1
                          clear H1
                          have H' := Aside0.mk H
                          clear H
                          go_wp2
                          repeat (go_quiet (fail); try go_wp2)
                          go_loopg [12] kj26 (fun kq v12 w' => ∃ (x12_4 : Int), v12 = .int .i64 x12_4 ∧ Aside0 (abacistlaw03_RootSums.l1 kq t139 t145 x11_2 x12_4 = some r) ∧ Aside0 (kq ≤ kj26) ∧ Aside0 (Kd.R (Kd.int .u64) 22 w' w.heap.size (fun _ => True) (.slice (some ad144) t139.length co28) t139) ∧ Aside0 (Below w.heap.size w w'))
                          case atStart => exact ⟨(0), (by first | rfl | (simp; done) | (simp [*]; done)), H', ⟨Nat.le_refl _⟩, ⟨by (with_reducible repeat (first | apply Kd.R_alloc | apply Kd.R_drewN | apply Kd.R_drew)); exact HO_8.out⟩, ⟨by repeat (first | (with_reducible first | exact HB.out | apply below_alloc | apply pw_below_drewN | apply below_drew1) | exact HB.out)⟩⟩
                          case round =>
                            clear H'
                            try clear c1
                            try clear p1
                            try clear q1
                            try clear hx1
                            try clear c2
                            try clear p2
                            try clear c3
                            try clear p6
                            try clear c7
                            try clear c7b0
                            try clear c7b1
                            try clear p14
                            try clear q14
                            try clear hx14
                            try clear c15
                            try clear c15b0
                            try clear c15b1
                            try clear c16
                            try clear c16b0
                            try clear c16b1
                            try clear c17
                            try clear c17b0
                            try clear c17b1
                            try clear c18
                            try clear c18b0
                            try clear c19
                            try clear c19b0
                            try clear c19b1
                            try clear c23
                            try clear c24
                            try clear c24b0
                            try clear c25
                            try clear c25b0
                            try clear c29
                            try clear c29b0
                            try clear c31
                            try clear c31b0
                            try clear c32
                            try clear c32b0
                            try clear c34
                            try clear hx144_0
                            try clear hx146_0
                            try clear hx147_0
                            try clear p1
                            try clear p14
                            try clear p144
                            try clear p146
                            try clear p147
                            try clear p2
                            try clear p6
                            try clear q1
                            try clear q14
                            try clear q144
                            try clear q146
                            try clear q147
                            obtain ⟨x12_4, rfl, HA, HK4, HO_8, HB⟩ := hrel
                            cases gk with
                            | zero => exact absurd HA.out (by simp [abacistlaw03_RootSums.l1])
                            | succ k4 =>
                              have H := HA.out
                              clear HA
                              simp only [abacistlaw03_RootSums.l1] at H
                              by_cases c35 : x12_4 < x11_2
                              · rw [if_pos c35] at H
                                have c35b0 : decide (x12_4 < x11_2) = true := decide_eq_true c35
                                clear c35
                                by_cases c36 : 0 ≤ x12_4
                                · rw [if_pos c36] at H
                                  have c36b0 : decide (0 ≤ x12_4) = true := decide_eq_true c36
                                  clear c36
                                  by_cases c37 : x12_4 < (t139.length : Int)
                                  · rw [if_pos c37] at H
                                    have c37b0 : decide (x12_4 < (t139.length : Int)) = true := decide_eq_true c37
                                    clear c37
                                    by_cases c38 : 0 ≤ x11_2
                                    · rw [if_pos c38] at H
                                      have c38b0 : decide (0 ≤ x11_2) = true := decide_eq_true c38
                                      clear c38
                                      by_cases c39 : x11_2 < (t139.length : Int)
                                      · rw [if_pos c39] at H
                                        have c39b0 : decide (x11_2 < (t139.length : Int)) = true := decide_eq_true c39
                                        clear c39
                                        by_cases c40 : (rd t139 x12_4) = (rd t139 x11_2)
                                        · rw [if_pos c40] at H
                                          have c40b0 : ((rd t139 x12_4) == (rd t139 x11_2)) = true := beq_iff_eq.mpr c40
                                          have c40b1 : ((rd t139 x12_4) != (rd t139 x11_2)) = false := bne_eq_false_iff_eq.mpr c40
                                          clear c40
                                          obtain rfl := Option.some.inj H
                                          exact absurd hr_.out (by decide)
                                        · rw [if_neg c40] at H
                                          have c40b0 : ((rd t139 x12_4) == (rd t139 x11_2)) = false := beq_eq_false_iff_ne.mpr c40
                                          have c40b1 : ((rd t139 x12_4) != (rd t139 x11_2)) = true := bne_iff_ne.mpr c40
                                          have H' := Aside0.mk H
                                          clear H
                                          have p149 : 0 ≤ (x12_4 : Int) := of_decide_eq_true (by first | (with_reducible assumption) | assumption)
                                          have q149 : x12_4 < (t139.length : Int) := of_decide_eq_true (by first | (with_reducible assumption) | assumption)
                                          obtain ⟨ad149, e149, hx149_0⟩ := Kd.at_int (Kd.R_reads' HO_8.out).2.2 x12_4 p149 q149
                                          obtain rfl : ad144 = ad149 := (by injection e149)
                                          replace p149 := eq_true p149
                                          replace q149 := eq_true q149
                                          have p150 : 0 ≤ (x11_2 : Int) := of_decide_eq_true (by first | (with_reducible assumption) | assumption)
                                          have q150 : x11_2 < (t139.length : Int) := of_decide_eq_true (by first | (with_reducible assumption) | assumption)
                                          obtain ⟨ad150, e150, hx150_0⟩ := Kd.at_int (Kd.R_reads' HO_8.out).2.2 x11_2 p150 q150
                                          obtain rfl : ad144 = ad150 := (by injection e150)
                                          replace p150 := eq_true p150
                                          replace q150 := eq_true q150
                                          go_wp2
                                          repeat (go_quiet (fail); try go_wp2)
                                          go_roundg k4
                                          case measure => have := HJ9.out; have := HK2.out; have := HJ26.out; have := HK4.out; omega
                                          case rel => exact ⟨(wrap64 (x12_4 + 1)), (by first | rfl | (simp; done) | (simp [*]; done)), H', ⟨by have := HJ9.out; have := HK2.out; have := HJ26.out; have := HK4.out; omega⟩, ⟨by (with_reducible repeat (first | apply Kd.R_alloc | apply Kd.R_drewN | apply Kd.R_drew)); exact HO_8.out⟩, ⟨by repeat (first | (with_reducible first | exact HB.out | apply below_alloc | apply pw_below_drewN | apply below_drew1) | exact HB.out)⟩⟩
                                      · rw [if_neg c39] at H
                                        exact absurd H (by simp)
                                    · rw [if_neg c38] at H
                                      exact absurd H (by simp)
                                  · rw [if_neg c37] at H
                                    exact absurd H (by simp)
                                · rw [if_neg c36] at H
                                  exact absurd H (by simp)
                              · rw [if_neg c35] at H
                                have c35b0 : decide (x12_4 < x11_2) = false := decide_eq_false c35
                                clear c35
                                have H' := Aside0.mk H
                                clear H
                                go_wp2
                                repeat (go_quiet (fail); try go_wp2)
                                go_roundg k4
                                case measure => have := HJ9.out; have := HK2.out; have := HJ26.out; have := HK4.out; omega
                                case rel => exact ⟨(t145), (wrap64 (x11_2 + 1)), (by first | rfl | (simp; done) | (simp [*]; done)), (by first | rfl | (simp; done) | (simp [*]; done)), H', ⟨by have := HJ9.out; have := HK2.out; have := HJ26.out; have := HK4.out; omega⟩, ⟨by (with_reducible repeat (first | apply Kd.R_alloc | apply Kd.R_drewN | apply Kd.R_drew)); exact HO_8.out⟩, ⟨by repeat (first | (with_reducible first | exact HB.out | apply below_alloc | apply pw_below_drewN | apply below_drew1) | exact HB.out)⟩⟩
                  · rw [if_neg c25] at H
                    exact absurd H (by simp)
                · rw [if_neg c24] at H
                  have c24b0 : decide (x11_2 < (t139.length : Int)) = false := decide_eq_false c24
                  clear c24
                  obtain rfl := Option.some.inj H
                  obtain ⟨Ao41, co41, eo41⟩ := Kd.R_slice HO_8.out
                  subst eo41
                  go_wp2
                  repeat (go_quiet (fail); try go_wp2)
                  go_ret
                  exact ⟨by first | rfl | (simp [errW_none, errW_some] <;> rfl) | (simp only [← hji6, ← hji8]; first | rfl | (simp [errW_none, errW_some] <;> rfl)) | (simp [*, errW_none, errW_some] <;> rfl), by repeat (first | (with_reducible first | exact HB.out | apply below_alloc | apply pw_below_drewN | apply below_drew1) | exact HB.out)⟩
    · rw [if_neg c7] at H
      exact absurd H (by simp)
  · replace c3 := Bool.eq_false_iff.mpr c3
    subst c3
    have H1 : (some false) = some r := by rw [if_neg (show ¬ (false = true) by decide)] at H; exact H
    clear H
    have H := H1
    clear H1
    obtain rfl := Option.some.inj H
    exact absurd hr_.out (by decide)

/-- THE ONE PURE STATEMENT of abacistlaw03_RootSums: yours. -/
def abacistlaw03_RootSums.Pure : Prop := ∀ (a0 : Int), (Lit.int .u8 a0).wf = true → ∃ k, abacistlaw03_RootSums.f k a0 = some true
theorem abacistlaw03_RootSums.walk (P : abacistlaw03_RootSums.Pure) (a0 : Int) (w : World) (w0 : (Lit.int .u8 a0).wf = true) :
    Calls Try.prog 7 #[.int .u8 a0] w fun e w' => e = .returned (.bool true) ∧ Below w.heap.size w w' := by
  obtain ⟨k, h⟩ := P a0 w0
  refine (abacistlaw03_RootSums.calls k a0 true ⟨rfl⟩ w h).mono ?_
  rintro e w' ⟨rfl, hd⟩
  exact ⟨rfl, hd⟩

end Go.Proofs.Ytalfhpghmoikoaa.PRootSums
