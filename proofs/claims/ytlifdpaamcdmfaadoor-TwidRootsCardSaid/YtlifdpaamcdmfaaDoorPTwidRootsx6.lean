-- Written for this claim by wip/gen/mk.sh, this session's own driver over the kit's print
import Derived.Test.YtlifdpaamcdmfaaDoorPTwidRootsx0
import Derived.Test.YtlifdpaamcdmfaaDoorPTwidRootsx1
import Derived.Test.YtlifdpaamcdmfaaDoorPTwidRootsx2
import Derived.Test.YtlifdpaamcdmfaaDoorPTwidRootsx4
import Derived.Test.YtlifdpaamcdmfaaDoorPTwidRootsx5
namespace Go.Proofs.YtlifdpaamcdmfaaDoor.PTwidRoots
open Go.RowKit Go.Proofs.YtlifdpaamcdmfaaDoorW.PrintWords Go.Proofs.YtlifdpaamcdmfaaDoorW.PrintLast Go.Proofs.YtlifdpaamcdmfaaDoorW.PrintMore
attribute [local go_sem] max2_int min2_int max_two min_two max_three min_three max_four min_four   -- for this text's walks alone
set_option linter.unusedVariables false
set_option linter.unusedSimpArgs false

/-! ### abacistlaw08_TwidRoots: function 4 -/
mutual
def abacistlaw08_TwidRoots.j0 : Nat → Int → Int → Int → Int → Bool → Option (Bool)
  | 0, _, _, _, _, _ => none
  | k + 1, x0, x1, x5, x6, x65 => if x65 = true then (some false) else (if x6 = 0 then ((abacistref08_Root.f k x0 x1).bind fun t237 => (if x5 = t237 then (if x0 > 6 then (abacistlaw08_TwidRoots.j1 k x0 x1 x5 (decide (x0 ≤ 20))) else (abacistlaw08_TwidRoots.j1 k x0 x1 x5 false)) else (some false))) else ((twid_Table.f k x0 x1).bind fun bt233 => (if x5 = 0 then (if bt233.2 = x6 then (some ((bt233.1.length : Int) == 0)) else (some false)) else (some false))))
def abacistlaw08_TwidRoots.j1 : Nat → Int → Int → Int → Bool → Option (Bool)
  | 0, _, _, _, _ => none
  | k + 1, x0, x1, x5, x96 => if x96 = true then (some true) else ((twid_Table.f k x0 x1).bind fun bt238 => (if x0 > 20 then (if bt238.2 = 14 then (some ((bt238.1.length : Int) == 0)) else (some false)) else (abacistlaw08_TwidRoots.l0 k x0 x5 bt238.1 bt238.2 1 1)))
def abacistlaw08_TwidRoots.l0 : Nat → Int → Int → List Int → Int → Int → Int → Option (Bool)
  | 0, _, _, _, _, _, _ => none
  | k + 1, x0, x5, x11, x12, x13, x14 => if x14 < x0 then (abacistlaw08_TwidRoots.l0 k x0 x5 x11 x12 (wrap64 (2 * x13)) (wrap64 (x14 + 1))) else (if x12 = 0 then ((abacistref03_Powers.f k x5 x13).bind fun t242 => ((abacistref04_Same.f k x11 t242).bind fun t245 => (some t245))) else (some false))
end
def abacistlaw08_TwidRoots.f (k : Nat) (a0 : Int) (a1 : Int) : Option (Bool) := (abacistlaw08_awake.f k).bind fun t225 => (if t225 = true then ((twid_Root.f k a0 a1).bind fun bt226 => ((twid_Share.f k a0).bind fun bt228 => ((abacistlaw08_wrong.f k a0 a1).bind fun t230 => (if bt226.2 = t230 then (if a0 ≥ 0 then (if ((bt228.2 == 0) != (decide (a0 ≤ 32))) = true then (abacistlaw08_TwidRoots.j0 k a0 a1 bt226.1 bt226.2 true) else (if bt228.2 = 0 then ((abacistref08_Share.f k a0).bind fun t231 => (abacistlaw08_TwidRoots.j0 k a0 a1 bt226.1 bt226.2 (bt228.1 != t231))) else (if bt228.2 = 1 then (if bt228.1 = 0 then (abacistlaw08_TwidRoots.j0 k a0 a1 bt226.1 bt226.2 false) else (abacistlaw08_TwidRoots.j0 k a0 a1 bt226.1 bt226.2 true)) else (abacistlaw08_TwidRoots.j0 k a0 a1 bt226.1 bt226.2 true)))) else (if ((bt228.2 == 0) != false) = true then (abacistlaw08_TwidRoots.j0 k a0 a1 bt226.1 bt226.2 true) else (if bt228.2 = 0 then ((abacistref08_Share.f k a0).bind fun t232 => (abacistlaw08_TwidRoots.j0 k a0 a1 bt226.1 bt226.2 (bt228.1 != t232))) else (if bt228.2 = 1 then (if bt228.1 = 0 then (abacistlaw08_TwidRoots.j0 k a0 a1 bt226.1 bt226.2 false) else (abacistlaw08_TwidRoots.j0 k a0 a1 bt226.1 bt226.2 true)) else (abacistlaw08_TwidRoots.j0 k a0 a1 bt226.1 bt226.2 true))))) else (abacistlaw08_TwidRoots.j0 k a0 a1 bt226.1 bt226.2 true))))) else (some false))
theorem abacistlaw08_TwidRoots.mono_l : ∀ k, (∀ y0 y1 y2 y3 y4, LeO (abacistlaw08_TwidRoots.j0 k y0 y1 y2 y3 y4) (abacistlaw08_TwidRoots.j0 (k + 1) y0 y1 y2 y3 y4)) ∧ (∀ y0 y1 y2 y3, LeO (abacistlaw08_TwidRoots.j1 k y0 y1 y2 y3) (abacistlaw08_TwidRoots.j1 (k + 1) y0 y1 y2 y3)) ∧ (∀ y0 y1 y2 y3 y4 y5, LeO (abacistlaw08_TwidRoots.l0 k y0 y1 y2 y3 y4 y5) (abacistlaw08_TwidRoots.l0 (k + 1) y0 y1 y2 y3 y4 y5))
  | 0 => ⟨fun _ _ _ _ _ r h => by simp [abacistlaw08_TwidRoots.j0] at h, fun _ _ _ _ r h => by simp [abacistlaw08_TwidRoots.j1] at h, fun _ _ _ _ _ _ r h => by simp [abacistlaw08_TwidRoots.l0] at h⟩
  | k + 1 => by
    obtain ⟨ih0, ih1, ih2⟩ := abacistlaw08_TwidRoots.mono_l k
    refine ⟨?_, ?_, ?_⟩
    · intro y0 y1 y2 y3 y4
      unfold abacistlaw08_TwidRoots.j0
      repeat' first
      | (with_reducible exact ih0 _ _ _ _ _)
      | (with_reducible exact ih1 _ _ _ _)
      | (with_reducible exact ih2 _ _ _ _ _ _)
      | (with_reducible exact abacistlaw08_awake.mono _)
      | (with_reducible exact abacistlaw08_wrong.mono _ _ _)
      | (with_reducible exact abacistref03_Powers.mono _ _ _)
      | (with_reducible exact abacistref04_Same.mono _ _ _)
      | (with_reducible exact abacistref08_Root.mono _ _ _)
      | (with_reducible exact abacistref08_Share.mono _ _)
      | (with_reducible exact twid_Root.mono _ _ _)
      | (with_reducible exact twid_Share.mono _ _)
      | (with_reducible exact twid_Table.mono _ _ _)
      | (with_reducible exact LeO.refl _)
      | (with_reducible exact LeO.none _)
      | (with_reducible refine LeO.ite ?_ ?_)
      | (with_reducible refine LeO.bind ?_ (fun _ => ?_))
      | exact ih0 _ _ _ _ _
      | exact ih1 _ _ _ _
      | exact ih2 _ _ _ _ _ _
      | exact abacistlaw08_awake.mono _
      | exact abacistlaw08_wrong.mono _ _ _
      | exact abacistref03_Powers.mono _ _ _
      | exact abacistref04_Same.mono _ _ _
      | exact abacistref08_Root.mono _ _ _
      | exact abacistref08_Share.mono _ _
      | exact twid_Root.mono _ _ _
      | exact twid_Share.mono _ _
      | exact twid_Table.mono _ _ _
      | exact LeO.none _
      | refine LeO.ite ?_ ?_
      | refine LeO.bind ?_ (fun _ => ?_)
    · intro y0 y1 y2 y3
      unfold abacistlaw08_TwidRoots.j1
      repeat' first
      | (with_reducible exact ih0 _ _ _ _ _)
      | (with_reducible exact ih1 _ _ _ _)
      | (with_reducible exact ih2 _ _ _ _ _ _)
      | (with_reducible exact abacistlaw08_awake.mono _)
      | (with_reducible exact abacistlaw08_wrong.mono _ _ _)
      | (with_reducible exact abacistref03_Powers.mono _ _ _)
      | (with_reducible exact abacistref04_Same.mono _ _ _)
      | (with_reducible exact abacistref08_Root.mono _ _ _)
      | (with_reducible exact abacistref08_Share.mono _ _)
      | (with_reducible exact twid_Root.mono _ _ _)
      | (with_reducible exact twid_Share.mono _ _)
      | (with_reducible exact twid_Table.mono _ _ _)
      | (with_reducible exact LeO.refl _)
      | (with_reducible exact LeO.none _)
      | (with_reducible refine LeO.ite ?_ ?_)
      | (with_reducible refine LeO.bind ?_ (fun _ => ?_))
      | exact ih0 _ _ _ _ _
      | exact ih1 _ _ _ _
      | exact ih2 _ _ _ _ _ _
      | exact abacistlaw08_awake.mono _
      | exact abacistlaw08_wrong.mono _ _ _
      | exact abacistref03_Powers.mono _ _ _
      | exact abacistref04_Same.mono _ _ _
      | exact abacistref08_Root.mono _ _ _
      | exact abacistref08_Share.mono _ _
      | exact twid_Root.mono _ _ _
      | exact twid_Share.mono _ _
      | exact twid_Table.mono _ _ _
      | exact LeO.none _
      | refine LeO.ite ?_ ?_
      | refine LeO.bind ?_ (fun _ => ?_)
    · intro y0 y1 y2 y3 y4 y5
      unfold abacistlaw08_TwidRoots.l0
      repeat' first
      | (with_reducible exact ih0 _ _ _ _ _)
      | (with_reducible exact ih1 _ _ _ _)
      | (with_reducible exact ih2 _ _ _ _ _ _)
      | (with_reducible exact abacistlaw08_awake.mono _)
      | (with_reducible exact abacistlaw08_wrong.mono _ _ _)
      | (with_reducible exact abacistref03_Powers.mono _ _ _)
      | (with_reducible exact abacistref04_Same.mono _ _ _)
      | (with_reducible exact abacistref08_Root.mono _ _ _)
      | (with_reducible exact abacistref08_Share.mono _ _)
      | (with_reducible exact twid_Root.mono _ _ _)
      | (with_reducible exact twid_Share.mono _ _)
      | (with_reducible exact twid_Table.mono _ _ _)
      | (with_reducible exact LeO.refl _)
      | (with_reducible exact LeO.none _)
      | (with_reducible refine LeO.ite ?_ ?_)
      | (with_reducible refine LeO.bind ?_ (fun _ => ?_))
      | exact ih0 _ _ _ _ _
      | exact ih1 _ _ _ _
      | exact ih2 _ _ _ _ _ _
      | exact abacistlaw08_awake.mono _
      | exact abacistlaw08_wrong.mono _ _ _
      | exact abacistref03_Powers.mono _ _ _
      | exact abacistref04_Same.mono _ _ _
      | exact abacistref08_Root.mono _ _ _
      | exact abacistref08_Share.mono _ _
      | exact twid_Root.mono _ _ _
      | exact twid_Share.mono _ _
      | exact twid_Table.mono _ _ _
      | exact LeO.none _
      | refine LeO.ite ?_ ?_
      | refine LeO.bind ?_ (fun _ => ?_)
theorem abacistlaw08_TwidRoots.mono : ∀ a0 a1 k, LeO (abacistlaw08_TwidRoots.f k a0 a1) (abacistlaw08_TwidRoots.f (k + 1) a0 a1) := by
  intro a0 a1 k
  obtain ⟨ih0, ih1, ih2⟩ := abacistlaw08_TwidRoots.mono_l k
  unfold abacistlaw08_TwidRoots.f
  repeat' first
      | (with_reducible exact ih0 _ _ _ _ _)
      | (with_reducible exact ih1 _ _ _ _)
      | (with_reducible exact ih2 _ _ _ _ _ _)
      | (with_reducible exact abacistlaw08_awake.mono _)
      | (with_reducible exact abacistlaw08_wrong.mono _ _ _)
      | (with_reducible exact abacistref03_Powers.mono _ _ _)
      | (with_reducible exact abacistref04_Same.mono _ _ _)
      | (with_reducible exact abacistref08_Root.mono _ _ _)
      | (with_reducible exact abacistref08_Share.mono _ _)
      | (with_reducible exact twid_Root.mono _ _ _)
      | (with_reducible exact twid_Share.mono _ _)
      | (with_reducible exact twid_Table.mono _ _ _)
      | (with_reducible exact LeO.refl _)
      | (with_reducible exact LeO.none _)
      | (with_reducible refine LeO.ite ?_ ?_)
      | (with_reducible refine LeO.bind ?_ (fun _ => ?_))
      | exact ih0 _ _ _ _ _
      | exact ih1 _ _ _ _
      | exact ih2 _ _ _ _ _ _
      | exact abacistlaw08_awake.mono _
      | exact abacistlaw08_wrong.mono _ _ _
      | exact abacistref03_Powers.mono _ _ _
      | exact abacistref04_Same.mono _ _ _
      | exact abacistref08_Root.mono _ _ _
      | exact abacistref08_Share.mono _ _
      | exact twid_Root.mono _ _ _
      | exact twid_Share.mono _ _
      | exact twid_Table.mono _ _ _
      | exact LeO.none _
      | refine LeO.ite ?_ ?_
      | refine LeO.bind ?_ (fun _ => ?_)
set_option maxHeartbeats 80000000 in
set_option maxRecDepth 100000 in
theorem abacistlaw08_TwidRoots.calls (k : Nat) (a0 : Int) (a1 : Int) (r : Bool) (hr_ : Aside0 (r = true)) (w : World) (hG : Aside0 (TzTab w)) (h : abacistlaw08_TwidRoots.f k a0 a1 = some r) :
    Calls Tryd.prog 4 #[.int .i64 a0, .int .i64 a1] w fun e w' => e = .returned (.bool r) ∧ Below w.heap.size w w' := by
  have HB := Aside0.mk (Below.refl w.heap.size w)
  have H : ((abacistlaw08_awake.f k).bind fun t225 => (if t225 = true then ((twid_Root.f k a0 a1).bind fun bt226 => ((twid_Share.f k a0).bind fun bt228 => ((abacistlaw08_wrong.f k a0 a1).bind fun t230 => (if bt226.2 = t230 then (if a0 ≥ 0 then (if ((bt228.2 == 0) != (decide (a0 ≤ 32))) = true then (abacistlaw08_TwidRoots.j0 k a0 a1 bt226.1 bt226.2 true) else (if bt228.2 = 0 then ((abacistref08_Share.f k a0).bind fun t231 => (abacistlaw08_TwidRoots.j0 k a0 a1 bt226.1 bt226.2 (bt228.1 != t231))) else (if bt228.2 = 1 then (if bt228.1 = 0 then (abacistlaw08_TwidRoots.j0 k a0 a1 bt226.1 bt226.2 false) else (abacistlaw08_TwidRoots.j0 k a0 a1 bt226.1 bt226.2 true)) else (abacistlaw08_TwidRoots.j0 k a0 a1 bt226.1 bt226.2 true)))) else (if ((bt228.2 == 0) != false) = true then (abacistlaw08_TwidRoots.j0 k a0 a1 bt226.1 bt226.2 true) else (if bt228.2 = 0 then ((abacistref08_Share.f k a0).bind fun t232 => (abacistlaw08_TwidRoots.j0 k a0 a1 bt226.1 bt226.2 (bt228.1 != t232))) else (if bt228.2 = 1 then (if bt228.1 = 0 then (abacistlaw08_TwidRoots.j0 k a0 a1 bt226.1 bt226.2 false) else (abacistlaw08_TwidRoots.j0 k a0 a1 bt226.1 bt226.2 true)) else (abacistlaw08_TwidRoots.j0 k a0 a1 bt226.1 bt226.2 true))))) else (abacistlaw08_TwidRoots.j0 k a0 a1 bt226.1 bt226.2 true))))) else (some false))) = some r := h
  clear h
  replace H := Option.bind_eq_some_iff.mp H
  obtain ⟨t225, A30, H⟩ := H
  replace H : (if t225 = true then ((twid_Root.f k a0 a1).bind fun bt226 => ((twid_Share.f k a0).bind fun bt228 => ((abacistlaw08_wrong.f k a0 a1).bind fun t230 => (if bt226.2 = t230 then (if a0 ≥ 0 then (if ((bt228.2 == 0) != (decide (a0 ≤ 32))) = true then (abacistlaw08_TwidRoots.j0 k a0 a1 bt226.1 bt226.2 true) else (if bt228.2 = 0 then ((abacistref08_Share.f k a0).bind fun t231 => (abacistlaw08_TwidRoots.j0 k a0 a1 bt226.1 bt226.2 (bt228.1 != t231))) else (if bt228.2 = 1 then (if bt228.1 = 0 then (abacistlaw08_TwidRoots.j0 k a0 a1 bt226.1 bt226.2 false) else (abacistlaw08_TwidRoots.j0 k a0 a1 bt226.1 bt226.2 true)) else (abacistlaw08_TwidRoots.j0 k a0 a1 bt226.1 bt226.2 true)))) else (if ((bt228.2 == 0) != false) = true then (abacistlaw08_TwidRoots.j0 k a0 a1 bt226.1 bt226.2 true) else (if bt228.2 = 0 then ((abacistref08_Share.f k a0).bind fun t232 => (abacistlaw08_TwidRoots.j0 k a0 a1 bt226.1 bt226.2 (bt228.1 != t232))) else (if bt228.2 = 1 then (if bt228.1 = 0 then (abacistlaw08_TwidRoots.j0 k a0 a1 bt226.1 bt226.2 false) else (abacistlaw08_TwidRoots.j0 k a0 a1 bt226.1 bt226.2 true)) else (abacistlaw08_TwidRoots.j0 k a0 a1 bt226.1 bt226.2 true))))) else (abacistlaw08_TwidRoots.j0 k a0 a1 bt226.1 bt226.2 true))))) else (some false)) = some r := H
  have A3 := Aside0.mk A30
  clear A30
  by_cases c4 : t225 = true
  · subst c4
    have H1 : ((twid_Root.f k a0 a1).bind fun bt226 => ((twid_Share.f k a0).bind fun bt228 => ((abacistlaw08_wrong.f k a0 a1).bind fun t230 => (if bt226.2 = t230 then (if a0 ≥ 0 then (if ((bt228.2 == 0) != (decide (a0 ≤ 32))) = true then (abacistlaw08_TwidRoots.j0 k a0 a1 bt226.1 bt226.2 true) else (if bt228.2 = 0 then ((abacistref08_Share.f k a0).bind fun t231 => (abacistlaw08_TwidRoots.j0 k a0 a1 bt226.1 bt226.2 (bt228.1 != t231))) else (if bt228.2 = 1 then (if bt228.1 = 0 then (abacistlaw08_TwidRoots.j0 k a0 a1 bt226.1 bt226.2 false) else (abacistlaw08_TwidRoots.j0 k a0 a1 bt226.1 bt226.2 true)) else (abacistlaw08_TwidRoots.j0 k a0 a1 bt226.1 bt226.2 true)))) else (if ((bt228.2 == 0) != false) = true then (abacistlaw08_TwidRoots.j0 k a0 a1 bt226.1 bt226.2 true) else (if bt228.2 = 0 then ((abacistref08_Share.f k a0).bind fun t232 => (abacistlaw08_TwidRoots.j0 k a0 a1 bt226.1 bt226.2 (bt228.1 != t232))) else (if bt228.2 = 1 then (if bt228.1 = 0 then (abacistlaw08_TwidRoots.j0 k a0 a1 bt226.1 bt226.2 false) else (abacistlaw08_TwidRoots.j0 k a0 a1 bt226.1 bt226.2 true)) else (abacistlaw08_TwidRoots.j0 k a0 a1 bt226.1 bt226.2 true))))) else (abacistlaw08_TwidRoots.j0 k a0 a1 bt226.1 bt226.2 true))))) = some r := by rw [if_pos rfl] at H; exact H
    clear H
    have H := H1
    clear H1
    replace H := Option.bind_eq_some_iff.mp H
    obtain ⟨⟨t226, t227⟩, A50, H⟩ := H
    replace H : ((twid_Share.f k a0).bind fun bt228 => ((abacistlaw08_wrong.f k a0 a1).bind fun t230 => (if t227 = t230 then (if a0 ≥ 0 then (if ((bt228.2 == 0) != (decide (a0 ≤ 32))) = true then (abacistlaw08_TwidRoots.j0 k a0 a1 t226 t227 true) else (if bt228.2 = 0 then ((abacistref08_Share.f k a0).bind fun t231 => (abacistlaw08_TwidRoots.j0 k a0 a1 t226 t227 (bt228.1 != t231))) else (if bt228.2 = 1 then (if bt228.1 = 0 then (abacistlaw08_TwidRoots.j0 k a0 a1 t226 t227 false) else (abacistlaw08_TwidRoots.j0 k a0 a1 t226 t227 true)) else (abacistlaw08_TwidRoots.j0 k a0 a1 t226 t227 true)))) else (if ((bt228.2 == 0) != false) = true then (abacistlaw08_TwidRoots.j0 k a0 a1 t226 t227 true) else (if bt228.2 = 0 then ((abacistref08_Share.f k a0).bind fun t232 => (abacistlaw08_TwidRoots.j0 k a0 a1 t226 t227 (bt228.1 != t232))) else (if bt228.2 = 1 then (if bt228.1 = 0 then (abacistlaw08_TwidRoots.j0 k a0 a1 t226 t227 false) else (abacistlaw08_TwidRoots.j0 k a0 a1 t226 t227 true)) else (abacistlaw08_TwidRoots.j0 k a0 a1 t226 t227 true))))) else (abacistlaw08_TwidRoots.j0 k a0 a1 t226 t227 true)))) = some r := H
    have A5 := Aside0.mk A50
    clear A50
    replace H := Option.bind_eq_some_iff.mp H
    obtain ⟨⟨t228, t229⟩, A60, H⟩ := H
    replace H : ((abacistlaw08_wrong.f k a0 a1).bind fun t230 => (if t227 = t230 then (if a0 ≥ 0 then (if ((t229 == 0) != (decide (a0 ≤ 32))) = true then (abacistlaw08_TwidRoots.j0 k a0 a1 t226 t227 true) else (if t229 = 0 then ((abacistref08_Share.f k a0).bind fun t231 => (abacistlaw08_TwidRoots.j0 k a0 a1 t226 t227 (t228 != t231))) else (if t229 = 1 then (if t228 = 0 then (abacistlaw08_TwidRoots.j0 k a0 a1 t226 t227 false) else (abacistlaw08_TwidRoots.j0 k a0 a1 t226 t227 true)) else (abacistlaw08_TwidRoots.j0 k a0 a1 t226 t227 true)))) else (if ((t229 == 0) != false) = true then (abacistlaw08_TwidRoots.j0 k a0 a1 t226 t227 true) else (if t229 = 0 then ((abacistref08_Share.f k a0).bind fun t232 => (abacistlaw08_TwidRoots.j0 k a0 a1 t226 t227 (t228 != t232))) else (if t229 = 1 then (if t228 = 0 then (abacistlaw08_TwidRoots.j0 k a0 a1 t226 t227 false) else (abacistlaw08_TwidRoots.j0 k a0 a1 t226 t227 true)) else (abacistlaw08_TwidRoots.j0 k a0 a1 t226 t227 true))))) else (abacistlaw08_TwidRoots.j0 k a0 a1 t226 t227 true))) = some r := H
    have A6 := Aside0.mk A60
    clear A60
    have HC7 := Aside0.mk H
    clear H
    go_enter Tryd.func4, Tryd.ntmps4
    go_upto_region 5 with (first | ((with_reducible refine gate_callee (f := 8) rfl ?_); refine goesL_ (some 15) rfl rfl Tryd.func8 (by kernel_rfl) rfl #[] rfl (by (try simp only [List.map_toArray, List.map_cons, List.map_nil]); first | done | rfl | (simp only [List.length_drop, List.length_take]; rfl)) ?_; (with_reducible refine (abacistlaw08_awake.calls k  true _ ?sideG A3.out).mono ?_); (case sideG => first | exact hG | exact ⟨hG.out⟩ | exact ⟨hG.out.below (by repeat (first | (with_reducible first | exact HB.out | apply below_alloc | apply pw_below_drewN | apply below_drew1) | exact HB.out))⟩); rintro e w8 ⟨rfl, hb⟩; refine ⟨_, rfl, ?_⟩; have n0_ := Aside0.mk (below_step (by repeat (first | (with_reducible first | exact HB.out | apply below_alloc | apply pw_below_drewN | apply below_drew1) | exact HB.out)) hb); clear HB; have HB := n0_; clear n0_; (try clear hb); (try clear hb2); (try clear hk); (try clear hi)) | (go_at_call 8; (with_reducible refine (abacistlaw08_awake.calls k  true _ ?sideG A3.out).mono ?_); (case sideG => first | exact hG | exact ⟨hG.out⟩ | exact ⟨hG.out.below (by repeat (first | (with_reducible first | exact HB.out | apply below_alloc | apply pw_below_drewN | apply below_drew1) | exact HB.out))⟩); rintro e w8 ⟨rfl, hb⟩; have n0_ := Aside0.mk (below_step (by repeat (first | (with_reducible first | exact HB.out | apply below_alloc | apply pw_below_drewN | apply below_drew1) | exact HB.out)) hb); clear HB; have HB := n0_; clear n0_; (try clear hb); (try clear hb2); (try clear hk); (try clear hi)) | ((with_reducible refine gate_callee (f := 16) rfl ?_); refine goesL_ (some 20) rfl rfl Tryd.func16 (by kernel_rfl) rfl #[.int .i64 a0, .int .i64 a1] rfl (by (try simp only [List.map_toArray, List.map_cons, List.map_nil]); first | done | rfl | (simp only [List.length_drop, List.length_take]; rfl)) ?_; (with_reducible refine (twid_Root.calls k a0 a1 t226 t227 _ A5.out).mono ?_); rintro e w9 ⟨rfl, hb⟩; refine ⟨_, rfl, ?_⟩; have n0_ := Aside0.mk (below_step (by repeat (first | (with_reducible first | exact HB.out | apply below_alloc | apply pw_below_drewN | apply below_drew1) | exact HB.out)) hb); clear HB; have HB := n0_; clear n0_; (try clear hb); (try clear hb2); (try clear hk); (try clear hi)) | (go_at_call 16; (with_reducible refine (twid_Root.calls k a0 a1 t226 t227 _ A5.out).mono ?_); rintro e w9 ⟨rfl, hb⟩; have n0_ := Aside0.mk (below_step (by repeat (first | (with_reducible first | exact HB.out | apply below_alloc | apply pw_below_drewN | apply below_drew1) | exact HB.out)) hb); clear HB; have HB := n0_; clear n0_; (try clear hb); (try clear hb2); (try clear hk); (try clear hi)) | ((with_reducible refine gate_callee (f := 17) rfl ?_); refine goesL_ (some 25) rfl rfl Tryd.func17 (by kernel_rfl) rfl #[.int .i64 a0] rfl (by (try simp only [List.map_toArray, List.map_cons, List.map_nil]); first | done | rfl | (simp only [List.length_drop, List.length_take]; rfl)) ?_; (with_reducible refine (twid_Share.calls k a0 t228 t229 _ A6.out).mono ?_); rintro e w10 ⟨rfl, hb⟩; refine ⟨_, rfl, ?_⟩; have n0_ := Aside0.mk (below_step (by repeat (first | (with_reducible first | exact HB.out | apply below_alloc | apply pw_below_drewN | apply below_drew1) | exact HB.out)) hb); clear HB; have HB := n0_; clear n0_; (try clear hb); (try clear hb2); (try clear hk); (try clear hi)) | (go_at_call 17; (with_reducible refine (twid_Share.calls k a0 t228 t229 _ A6.out).mono ?_); rintro e w10 ⟨rfl, hb⟩; have n0_ := Aside0.mk (below_step (by repeat (first | (with_reducible first | exact HB.out | apply below_alloc | apply pw_below_drewN | apply below_drew1) | exact HB.out)) hb); clear HB; have HB := n0_; clear n0_; (try clear hb); (try clear hb2); (try clear hk); (try clear hi)))
    (try simp only [Act.put, List.setIfInBounds_toArray, List.set_cons_zero, List.set_cons_succ])
    go_cut [65] (fun v65 wc => ∃ (kq : Nat) (x65_6 : Bool), v65 = .bool x65_6 ∧ Aside0 (abacistlaw08_TwidRoots.j0 kq a0 a1 t226 t227 x65_6 = some r) ∧ Aside0 (kq ≤ k) ∧ Aside0 (Below w.heap.size w wc))
    case first =>
      have H := HC7.out
      clear HC7
      replace H := Option.bind_eq_some_iff.mp H
      obtain ⟨t230, A110, H⟩ := H
      replace H : (if t227 = t230 then (if a0 ≥ 0 then (if ((t229 == 0) != (decide (a0 ≤ 32))) = true then (abacistlaw08_TwidRoots.j0 k a0 a1 t226 t227 true) else (if t229 = 0 then ((abacistref08_Share.f k a0).bind fun t231 => (abacistlaw08_TwidRoots.j0 k a0 a1 t226 t227 (t228 != t231))) else (if t229 = 1 then (if t228 = 0 then (abacistlaw08_TwidRoots.j0 k a0 a1 t226 t227 false) else (abacistlaw08_TwidRoots.j0 k a0 a1 t226 t227 true)) else (abacistlaw08_TwidRoots.j0 k a0 a1 t226 t227 true)))) else (if ((t229 == 0) != false) = true then (abacistlaw08_TwidRoots.j0 k a0 a1 t226 t227 true) else (if t229 = 0 then ((abacistref08_Share.f k a0).bind fun t232 => (abacistlaw08_TwidRoots.j0 k a0 a1 t226 t227 (t228 != t232))) else (if t229 = 1 then (if t228 = 0 then (abacistlaw08_TwidRoots.j0 k a0 a1 t226 t227 false) else (abacistlaw08_TwidRoots.j0 k a0 a1 t226 t227 true)) else (abacistlaw08_TwidRoots.j0 k a0 a1 t226 t227 true))))) else (abacistlaw08_TwidRoots.j0 k a0 a1 t226 t227 true)) = some r := H
      have A11 := Aside0.mk A110
      clear A110
      by_cases c12 : t227 = t230
      · rw [if_pos c12] at H
        have c12b0 : (t227 == t230) = true := beq_iff_eq.mpr c12
        have c12b1 : (t227 != t230) = false := bne_eq_false_iff_eq.mpr c12
        clear c12
        (first | rw [c12b0] | (simp only [i64_w, i32_w]; rw [c12b0]) | skip)
        by_cases c13 : a0 ≥ 0
        · rw [if_pos c13] at H
          have c13b0 : decide (0 ≤ a0) = true := decide_eq_true c13
          clear c13
          by_cases c14 : ((t229 == 0) != (decide (a0 ≤ 32))) = true
          · rw [if_pos c14] at H
            have c14b0 : ((t229 == 0) != (decide (a0 ≤ 32))) = true := c14
            (try (have c14b1 : decide ((t229 == 0) = (decide (a0 ≤ 32))) = false := by simpa using c14))
            (try (have c14b2 : ((t229 == 0) == (decide (a0 ≤ 32))) = false := by simpa using c14))
            (try (have c14b3 : ¬ ((t229 == 0) = (decide (a0 ≤ 32))) := by simpa using c14))
            clear c14
            have H' := Aside0.mk H
            clear H
            go_wp2_with (first | ((with_reducible refine gate_callee (f := 18) rfl ?_); refine goesL_ (some 31) rfl rfl Tryd.func18 (by kernel_rfl) rfl #[.int .i64 a0, .int .i64 a1] rfl (by (try simp only [List.map_toArray, List.map_cons, List.map_nil]); first | done | rfl | (simp only [List.length_drop, List.length_take]; rfl)) ?_; (with_reducible refine (abacistlaw08_wrong.calls k a0 a1 t230 _ A11.out).mono ?_); rintro e w' ⟨rfl, ⟨nd, rfl⟩⟩; refine ⟨_, rfl, ?_⟩) | (go_at_call 18; (with_reducible refine (abacistlaw08_wrong.calls k a0 a1 t230 _ A11.out).mono ?_); rintro e w' ⟨rfl, ⟨nd, rfl⟩⟩))
            go_meet
            case rel => exact ⟨_, (true), (by first | rfl | (simp; done) | (exact (‹Aside0 False›).out.elim) | (simp [*]; done)), H', ⟨by first | omega | exact Nat.le_refl _⟩, ⟨by repeat (first | (with_reducible first | exact HB.out | apply below_alloc | apply pw_below_drewN | apply below_drew1) | exact HB.out)⟩⟩
          · rw [if_neg c14] at H
            have c14b0 : ((t229 == 0) != (decide (a0 ≤ 32))) = false := by simpa using c14
            (try (have c14b1 : decide ((t229 == 0) = (decide (a0 ≤ 32))) = true := by simpa using c14))
            (try (have c14b2 : ((t229 == 0) == (decide (a0 ≤ 32))) = true := by simpa using c14))
            clear c14
            by_cases c15 : t229 = 0
            · rw [if_pos c15] at H
              have c15b0 : (t229 == 0) = true := beq_iff_eq.mpr c15
              (try (have c14_c15t : decide (a0 ≤ 32) = true := by simpa [c15b0] using c14b0))
              (try (have c14_c15f : decide (a0 ≤ 32) = false := by simpa [c15b0] using c14b0))
              have c15b1 : (t229 != 0) = false := bne_eq_false_iff_eq.mpr c15
              clear c15
              replace H := Option.bind_eq_some_iff.mp H
              obtain ⟨t231, A160, H⟩ := H
              replace H : (abacistlaw08_TwidRoots.j0 k a0 a1 t226 t227 (t228 != t231)) = some r := H
              have A16 := Aside0.mk A160
              clear A160
              have H' := Aside0.mk H
              clear H
              go_wp2_with (first | ((with_reducible refine gate_callee (f := 18) rfl ?_); refine goesL_ (some 31) rfl rfl Tryd.func18 (by kernel_rfl) rfl #[.int .i64 a0, .int .i64 a1] rfl (by (try simp only [List.map_toArray, List.map_cons, List.map_nil]); first | done | rfl | (simp only [List.length_drop, List.length_take]; rfl)) ?_; (with_reducible refine (abacistlaw08_wrong.calls k a0 a1 t230 _ A11.out).mono ?_); rintro e w' ⟨rfl, ⟨nd, rfl⟩⟩; refine ⟨_, rfl, ?_⟩) | (go_at_call 18; (with_reducible refine (abacistlaw08_wrong.calls k a0 a1 t230 _ A11.out).mono ?_); rintro e w' ⟨rfl, ⟨nd, rfl⟩⟩) | (go_at_call 19; (with_reducible refine (abacistref08_Share.calls k a0 t231 _ A16.out).mono ?_); rintro e w' ⟨rfl, ⟨nd, rfl⟩⟩))
              go_meet
              case rel => exact ⟨_, ((t228 != t231)), (by first | rfl | (simp; done) | (exact (‹Aside0 False›).out.elim) | (simp [*]; done)), H', ⟨by first | omega | exact Nat.le_refl _⟩, ⟨by repeat (first | (with_reducible first | exact HB.out | apply below_alloc | apply pw_below_drewN | apply below_drew1) | exact HB.out)⟩⟩
            · rw [if_neg c15] at H
              have c15b0 : (t229 == 0) = false := beq_eq_false_iff_ne.mpr c15
              (try (have c14_c15t : decide (a0 ≤ 32) = true := by simpa [c15b0] using c14b0))
              (try (have c14_c15f : decide (a0 ≤ 32) = false := by simpa [c15b0] using c14b0))
              have c15b1 : (t229 != 0) = true := bne_iff_ne.mpr c15
              by_cases c17 : t229 = 1
              · rw [if_pos c17] at H
                have c17b0 : (t229 == 1) = true := beq_iff_eq.mpr c17
                have c17b1 : (t229 != 1) = false := bne_eq_false_iff_eq.mpr c17
                clear c17
                by_cases c18 : t228 = 0
                · rw [if_pos c18] at H
                  have c18b0 : (t228 == 0) = true := beq_iff_eq.mpr c18
                  have c18b1 : (t228 != 0) = false := bne_eq_false_iff_eq.mpr c18
                  clear c18
                  have H' := Aside0.mk H
                  clear H
                  go_wp2_with (first | ((with_reducible refine gate_callee (f := 18) rfl ?_); refine goesL_ (some 31) rfl rfl Tryd.func18 (by kernel_rfl) rfl #[.int .i64 a0, .int .i64 a1] rfl (by (try simp only [List.map_toArray, List.map_cons, List.map_nil]); first | done | rfl | (simp only [List.length_drop, List.length_take]; rfl)) ?_; (with_reducible refine (abacistlaw08_wrong.calls k a0 a1 t230 _ A11.out).mono ?_); rintro e w' ⟨rfl, ⟨nd, rfl⟩⟩; refine ⟨_, rfl, ?_⟩) | (go_at_call 18; (with_reducible refine (abacistlaw08_wrong.calls k a0 a1 t230 _ A11.out).mono ?_); rintro e w' ⟨rfl, ⟨nd, rfl⟩⟩))
                  go_meet
                  case rel => exact ⟨_, (false), (by first | rfl | (simp; done) | (exact (‹Aside0 False›).out.elim) | (simp [*]; done)), H', ⟨by first | omega | exact Nat.le_refl _⟩, ⟨by repeat (first | (with_reducible first | exact HB.out | apply below_alloc | apply pw_below_drewN | apply below_drew1) | exact HB.out)⟩⟩
                · rw [if_neg c18] at H
                  have c18b0 : (t228 == 0) = false := beq_eq_false_iff_ne.mpr c18
                  have c18b1 : (t228 != 0) = true := bne_iff_ne.mpr c18
                  have H' := Aside0.mk H
                  clear H
                  go_wp2_with (first | ((with_reducible refine gate_callee (f := 18) rfl ?_); refine goesL_ (some 31) rfl rfl Tryd.func18 (by kernel_rfl) rfl #[.int .i64 a0, .int .i64 a1] rfl (by (try simp only [List.map_toArray, List.map_cons, List.map_nil]); first | done | rfl | (simp only [List.length_drop, List.length_take]; rfl)) ?_; (with_reducible refine (abacistlaw08_wrong.calls k a0 a1 t230 _ A11.out).mono ?_); rintro e w' ⟨rfl, ⟨nd, rfl⟩⟩; refine ⟨_, rfl, ?_⟩) | (go_at_call 18; (with_reducible refine (abacistlaw08_wrong.calls k a0 a1 t230 _ A11.out).mono ?_); rintro e w' ⟨rfl, ⟨nd, rfl⟩⟩))
                  go_meet
                  case rel => exact ⟨_, (true), (by first | rfl | (simp; done) | (exact (‹Aside0 False›).out.elim) | (simp [*]; done)), H', ⟨by first | omega | exact Nat.le_refl _⟩, ⟨by repeat (first | (with_reducible first | exact HB.out | apply below_alloc | apply pw_below_drewN | apply below_drew1) | exact HB.out)⟩⟩
              · rw [if_neg c17] at H
                have c17b0 : (t229 == 1) = false := beq_eq_false_iff_ne.mpr c17
                have c17b1 : (t229 != 1) = true := bne_iff_ne.mpr c17
                have H' := Aside0.mk H
                clear H
                go_wp2_with (first | ((with_reducible refine gate_callee (f := 18) rfl ?_); refine goesL_ (some 31) rfl rfl Tryd.func18 (by kernel_rfl) rfl #[.int .i64 a0, .int .i64 a1] rfl (by (try simp only [List.map_toArray, List.map_cons, List.map_nil]); first | done | rfl | (simp only [List.length_drop, List.length_take]; rfl)) ?_; (with_reducible refine (abacistlaw08_wrong.calls k a0 a1 t230 _ A11.out).mono ?_); rintro e w' ⟨rfl, ⟨nd, rfl⟩⟩; refine ⟨_, rfl, ?_⟩) | (go_at_call 18; (with_reducible refine (abacistlaw08_wrong.calls k a0 a1 t230 _ A11.out).mono ?_); rintro e w' ⟨rfl, ⟨nd, rfl⟩⟩))
                go_meet
                case rel => exact ⟨_, (true), (by first | rfl | (simp; done) | (exact (‹Aside0 False›).out.elim) | (simp [*]; done)), H', ⟨by first | omega | exact Nat.le_refl _⟩, ⟨by repeat (first | (with_reducible first | exact HB.out | apply below_alloc | apply pw_below_drewN | apply below_drew1) | exact HB.out)⟩⟩
        · rw [if_neg c13] at H
          have c13b0 : decide (0 ≤ a0) = false := decide_eq_false c13
          clear c13
          by_cases c19 : ((t229 == 0) != false) = true
          · rw [if_pos c19] at H
            have c19b0 : ((t229 == 0) != false) = true := c19
            (try (have c19b1 : decide ((t229 == 0) = false) = false := by simpa using c19))
            (try (have c19b2 : ((t229 == 0) == false) = false := by simpa using c19))
            (try (have c19b3 : ¬ ((t229 == 0) = false) := by simpa using c19))
            clear c19
            have H' := Aside0.mk H
            clear H
            go_wp2_with (first | ((with_reducible refine gate_callee (f := 18) rfl ?_); refine goesL_ (some 31) rfl rfl Tryd.func18 (by kernel_rfl) rfl #[.int .i64 a0, .int .i64 a1] rfl (by (try simp only [List.map_toArray, List.map_cons, List.map_nil]); first | done | rfl | (simp only [List.length_drop, List.length_take]; rfl)) ?_; (with_reducible refine (abacistlaw08_wrong.calls k a0 a1 t230 _ A11.out).mono ?_); rintro e w' ⟨rfl, ⟨nd, rfl⟩⟩; refine ⟨_, rfl, ?_⟩) | (go_at_call 18; (with_reducible refine (abacistlaw08_wrong.calls k a0 a1 t230 _ A11.out).mono ?_); rintro e w' ⟨rfl, ⟨nd, rfl⟩⟩))
            go_meet
            case rel => exact ⟨_, (true), (by first | rfl | (simp; done) | (exact (‹Aside0 False›).out.elim) | (simp [*]; done)), H', ⟨by first | omega | exact Nat.le_refl _⟩, ⟨by repeat (first | (with_reducible first | exact HB.out | apply below_alloc | apply pw_below_drewN | apply below_drew1) | exact HB.out)⟩⟩
          · rw [if_neg c19] at H
            have c19b0 : ((t229 == 0) != false) = false := by simpa using c19
            (try (have c19b1 : decide ((t229 == 0) = false) = true := by simpa using c19))
            (try (have c19b2 : ((t229 == 0) == false) = true := by simpa using c19))
            clear c19
            by_cases c20 : t229 = 0
            · rw [if_pos c20] at H
              have c20b0 : (t229 == 0) = true := beq_iff_eq.mpr c20
              have c19_c20z : Aside0 False := ⟨by simpa [c20b0] using c19b0⟩
              have c20b1 : (t229 != 0) = false := bne_eq_false_iff_eq.mpr c20
              clear c20
              replace H := Option.bind_eq_some_iff.mp H
              obtain ⟨t232, A210, H⟩ := H
              replace H : (abacistlaw08_TwidRoots.j0 k a0 a1 t226 t227 (t228 != t232)) = some r := H
              have A21 := Aside0.mk A210
              clear A210
              have H' := Aside0.mk H
              clear H
              go_wp2_with (first | ((with_reducible refine gate_callee (f := 18) rfl ?_); refine goesL_ (some 31) rfl rfl Tryd.func18 (by kernel_rfl) rfl #[.int .i64 a0, .int .i64 a1] rfl (by (try simp only [List.map_toArray, List.map_cons, List.map_nil]); first | done | rfl | (simp only [List.length_drop, List.length_take]; rfl)) ?_; (with_reducible refine (abacistlaw08_wrong.calls k a0 a1 t230 _ A11.out).mono ?_); rintro e w' ⟨rfl, ⟨nd, rfl⟩⟩; refine ⟨_, rfl, ?_⟩) | (go_at_call 18; (with_reducible refine (abacistlaw08_wrong.calls k a0 a1 t230 _ A11.out).mono ?_); rintro e w' ⟨rfl, ⟨nd, rfl⟩⟩) | (go_at_call 19; (with_reducible refine (abacistref08_Share.calls k a0 t232 _ A21.out).mono ?_); rintro e w' ⟨rfl, ⟨nd, rfl⟩⟩))
              go_meet
              case rel => exact ⟨_, ((t228 != t232)), (by first | rfl | (simp; done) | (exact (‹Aside0 False›).out.elim) | (simp [*]; done)), H', ⟨by first | omega | exact Nat.le_refl _⟩, ⟨by repeat (first | (with_reducible first | exact HB.out | apply below_alloc | apply pw_below_drewN | apply below_drew1) | exact HB.out)⟩⟩
            · rw [if_neg c20] at H
              have c20b0 : (t229 == 0) = false := beq_eq_false_iff_ne.mpr c20
              have c20b1 : (t229 != 0) = true := bne_iff_ne.mpr c20
              by_cases c22 : t229 = 1
              · rw [if_pos c22] at H
                have c22b0 : (t229 == 1) = true := beq_iff_eq.mpr c22
                have c22b1 : (t229 != 1) = false := bne_eq_false_iff_eq.mpr c22
                clear c22
                by_cases c23 : t228 = 0
                · rw [if_pos c23] at H
                  have c23b0 : (t228 == 0) = true := beq_iff_eq.mpr c23
                  have c23b1 : (t228 != 0) = false := bne_eq_false_iff_eq.mpr c23
                  clear c23
                  have H' := Aside0.mk H
                  clear H
                  go_wp2_with (first | ((with_reducible refine gate_callee (f := 18) rfl ?_); refine goesL_ (some 31) rfl rfl Tryd.func18 (by kernel_rfl) rfl #[.int .i64 a0, .int .i64 a1] rfl (by (try simp only [List.map_toArray, List.map_cons, List.map_nil]); first | done | rfl | (simp only [List.length_drop, List.length_take]; rfl)) ?_; (with_reducible refine (abacistlaw08_wrong.calls k a0 a1 t230 _ A11.out).mono ?_); rintro e w' ⟨rfl, ⟨nd, rfl⟩⟩; refine ⟨_, rfl, ?_⟩) | (go_at_call 18; (with_reducible refine (abacistlaw08_wrong.calls k a0 a1 t230 _ A11.out).mono ?_); rintro e w' ⟨rfl, ⟨nd, rfl⟩⟩))
                  go_meet
                  case rel => exact ⟨_, (false), (by first | rfl | (simp; done) | (exact (‹Aside0 False›).out.elim) | (simp [*]; done)), H', ⟨by first | omega | exact Nat.le_refl _⟩, ⟨by repeat (first | (with_reducible first | exact HB.out | apply below_alloc | apply pw_below_drewN | apply below_drew1) | exact HB.out)⟩⟩
                · rw [if_neg c23] at H
                  have c23b0 : (t228 == 0) = false := beq_eq_false_iff_ne.mpr c23
                  have c23b1 : (t228 != 0) = true := bne_iff_ne.mpr c23
                  have H' := Aside0.mk H
                  clear H
                  go_wp2_with (first | ((with_reducible refine gate_callee (f := 18) rfl ?_); refine goesL_ (some 31) rfl rfl Tryd.func18 (by kernel_rfl) rfl #[.int .i64 a0, .int .i64 a1] rfl (by (try simp only [List.map_toArray, List.map_cons, List.map_nil]); first | done | rfl | (simp only [List.length_drop, List.length_take]; rfl)) ?_; (with_reducible refine (abacistlaw08_wrong.calls k a0 a1 t230 _ A11.out).mono ?_); rintro e w' ⟨rfl, ⟨nd, rfl⟩⟩; refine ⟨_, rfl, ?_⟩) | (go_at_call 18; (with_reducible refine (abacistlaw08_wrong.calls k a0 a1 t230 _ A11.out).mono ?_); rintro e w' ⟨rfl, ⟨nd, rfl⟩⟩))
                  go_meet
                  case rel => exact ⟨_, (true), (by first | rfl | (simp; done) | (exact (‹Aside0 False›).out.elim) | (simp [*]; done)), H', ⟨by first | omega | exact Nat.le_refl _⟩, ⟨by repeat (first | (with_reducible first | exact HB.out | apply below_alloc | apply pw_below_drewN | apply below_drew1) | exact HB.out)⟩⟩
              · rw [if_neg c22] at H
                have c22b0 : (t229 == 1) = false := beq_eq_false_iff_ne.mpr c22
                have c22b1 : (t229 != 1) = true := bne_iff_ne.mpr c22
                have H' := Aside0.mk H
                clear H
                go_wp2_with (first | ((with_reducible refine gate_callee (f := 18) rfl ?_); refine goesL_ (some 31) rfl rfl Tryd.func18 (by kernel_rfl) rfl #[.int .i64 a0, .int .i64 a1] rfl (by (try simp only [List.map_toArray, List.map_cons, List.map_nil]); first | done | rfl | (simp only [List.length_drop, List.length_take]; rfl)) ?_; (with_reducible refine (abacistlaw08_wrong.calls k a0 a1 t230 _ A11.out).mono ?_); rintro e w' ⟨rfl, ⟨nd, rfl⟩⟩; refine ⟨_, rfl, ?_⟩) | (go_at_call 18; (with_reducible refine (abacistlaw08_wrong.calls k a0 a1 t230 _ A11.out).mono ?_); rintro e w' ⟨rfl, ⟨nd, rfl⟩⟩))
                go_meet
                case rel => exact ⟨_, (true), (by first | rfl | (simp; done) | (exact (‹Aside0 False›).out.elim) | (simp [*]; done)), H', ⟨by first | omega | exact Nat.le_refl _⟩, ⟨by repeat (first | (with_reducible first | exact HB.out | apply below_alloc | apply pw_below_drewN | apply below_drew1) | exact HB.out)⟩⟩
      · rw [if_neg c12] at H
        have c12b0 : (t227 == t230) = false := beq_eq_false_iff_ne.mpr c12
        have c12b1 : (t227 != t230) = true := bne_iff_ne.mpr c12
        (first | rw [c12b0] | (simp only [i64_w, i32_w]; rw [c12b0]) | skip)
        have H' := Aside0.mk H
        clear H
        go_wp2_with (first | ((with_reducible refine gate_callee (f := 18) rfl ?_); refine goesL_ (some 31) rfl rfl Tryd.func18 (by kernel_rfl) rfl #[.int .i64 a0, .int .i64 a1] rfl (by (try simp only [List.map_toArray, List.map_cons, List.map_nil]); first | done | rfl | (simp only [List.length_drop, List.length_take]; rfl)) ?_; (with_reducible refine (abacistlaw08_wrong.calls k a0 a1 t230 _ A11.out).mono ?_); rintro e w' ⟨rfl, ⟨nd, rfl⟩⟩; refine ⟨_, rfl, ?_⟩) | (go_at_call 18; (with_reducible refine (abacistlaw08_wrong.calls k a0 a1 t230 _ A11.out).mono ?_); rintro e w' ⟨rfl, ⟨nd, rfl⟩⟩))
        go_meet
        case rel => exact ⟨_, (true), (by first | rfl | (simp; done) | (exact (‹Aside0 False›).out.elim) | (simp [*]; done)), H', ⟨by first | omega | exact Nat.le_refl _⟩, ⟨by repeat (first | (with_reducible first | exact HB.out | apply below_alloc | apply pw_below_drewN | apply below_drew1) | exact HB.out)⟩⟩
    case rest =>
      clear HC7
      try clear c1
      try clear c2
      try clear p2
      try clear c4
      try clear c8
      try clear c12
      try clear c12b0
      try clear c12b1
      try clear c13
      try clear c13b0
      try clear c14
      try clear c14b0
      try clear c14b1
      try clear c14b2
      try clear c15
      try clear c15b0
      try clear c15b1
      try clear c16
      try clear c17
      try clear c17b0
      try clear c17b1
      try clear c18
      try clear c18b0
      try clear c18b1
      try clear c19
      try clear c19b0
      try clear c19b1
      try clear c19b2
      try clear c20
      try clear c20b0
      try clear c20b1
      try clear c22
      try clear c22b0
      try clear c22b1
      try clear c23
      try clear c23b0
      try clear c23b1
      obtain ⟨kq, x65_6, rfl, HA, HJ6, HB⟩ := hcut
      cases kq with
      | zero => exact absurd HA.out (by simp [abacistlaw08_TwidRoots.j0])
      | succ kj6 =>
        have H := HA.out
        clear HA
        simp only [abacistlaw08_TwidRoots.j0] at H
        by_cases c24 : x65_6 = true
        · subst c24
          have H1 : (some false) = some r := by rw [if_pos rfl] at H; exact H
          clear H
          have H := H1
          clear H1
          obtain rfl := Option.some.inj H
          exact absurd hr_.out (by decide)
        · replace c24 := Bool.eq_false_iff.mpr c24
          subst c24
          have H1 : (if t227 = 0 then ((abacistref08_Root.f kj6 a0 a1).bind fun t237 => (if t226 = t237 then (if a0 > 6 then (abacistlaw08_TwidRoots.j1 kj6 a0 a1 t226 (decide (a0 ≤ 20))) else (abacistlaw08_TwidRoots.j1 kj6 a0 a1 t226 false)) else (some false))) else ((twid_Table.f kj6 a0 a1).bind fun bt233 => (if t226 = 0 then (if bt233.2 = t227 then (some ((bt233.1.length : Int) == 0)) else (some false)) else (some false)))) = some r := by rw [if_neg (show ¬ (false = true) by decide)] at H; exact H
          clear H
          have H := H1
          clear H1
          by_cases c25 : t227 = 0
          · rw [if_pos c25] at H
            have c25b0 : (t227 == 0) = true := beq_iff_eq.mpr c25
            have c25b1 : (t227 != 0) = false := bne_eq_false_iff_eq.mpr c25
            clear c25
            replace H := Option.bind_eq_some_iff.mp H
            obtain ⟨t237, A260, H⟩ := H
            replace H : (if t226 = t237 then (if a0 > 6 then (abacistlaw08_TwidRoots.j1 kj6 a0 a1 t226 (decide (a0 ≤ 20))) else (abacistlaw08_TwidRoots.j1 kj6 a0 a1 t226 false)) else (some false)) = some r := H
            have A26 := Aside0.mk A260
            clear A260
            by_cases c27 : t226 = t237
            · rw [if_pos c27] at H
              have c27b0 : (t226 == t237) = true := beq_iff_eq.mpr c27
              have c27b1 : (t226 != t237) = false := bne_eq_false_iff_eq.mpr c27
              clear c27
              have HC28 := Aside0.mk H
              clear H
              go_upto_region 12 with (first | ((with_reducible refine gate_callee (f := 21) rfl ?_); refine goesL_ (some 89) rfl rfl Tryd.func21 (by kernel_rfl) rfl #[.int .i64 a0, .int .i64 a1] rfl (by (try simp only [List.map_toArray, List.map_cons, List.map_nil]); first | done | rfl | (simp only [List.length_drop, List.length_take]; rfl)) ?_; (with_reducible refine (abacistref08_Root.calls kj6 a0 a1 t237 _ A26.out).mono ?_); rintro e w' ⟨rfl, ⟨nd, rfl⟩⟩; refine ⟨_, rfl, ?_⟩) | (go_at_call 21; (with_reducible refine (abacistref08_Root.calls kj6 a0 a1 t237 _ A26.out).mono ?_); rintro e w' ⟨rfl, ⟨nd, rfl⟩⟩))
              (try simp only [Act.put, List.setIfInBounds_toArray, List.set_cons_zero, List.set_cons_succ])
              go_cut [96] (fun v96 wc => ∃ (kq : Nat) (x96_27 : Bool), v96 = .bool x96_27 ∧ Aside0 (abacistlaw08_TwidRoots.j1 kq a0 a1 t226 x96_27 = some r) ∧ Aside0 (kq ≤ kj6) ∧ Aside0 (Below w.heap.size w wc))
              case first =>
                have H := HC28.out
                clear HC28
                by_cases c29 : a0 > 6
                · rw [if_pos c29] at H
                  have c29b0 : decide (6 < a0) = true := decide_eq_true c29
                  clear c29
                  (first | rw [c29b0] | (simp only [i64_w, i32_w]; rw [c29b0]) | skip)
                  have H' := Aside0.mk H
                  clear H
                  go_wp2
                  go_meet
                  case rel => exact ⟨_, (decide (a0 ≤ 20)), (by first | rfl | (simp; done) | (exact (‹Aside0 False›).out.elim) | (simp [*]; done)), H', ⟨by have := HJ6.out; first | omega | exact Nat.le_refl _⟩, ⟨by repeat (first | (with_reducible first | exact HB.out | apply below_alloc | apply pw_below_drewN | apply below_drew1) | exact HB.out)⟩⟩
                · rw [if_neg c29] at H
                  have c29b0 : decide (6 < a0) = false := decide_eq_false c29
                  clear c29
                  (first | rw [c29b0] | (simp only [i64_w, i32_w]; rw [c29b0]) | skip)
                  have H' := Aside0.mk H
                  clear H
                  go_wp2
                  go_meet
                  case rel => exact ⟨_, (false), (by first | rfl | (simp; done) | (exact (‹Aside0 False›).out.elim) | (simp [*]; done)), H', ⟨by have := HJ6.out; first | omega | exact Nat.le_refl _⟩, ⟨by repeat (first | (with_reducible first | exact HB.out | apply below_alloc | apply pw_below_drewN | apply below_drew1) | exact HB.out)⟩⟩
              case rest =>
                clear HC28
                try clear c1
                try clear c2
                try clear p2
                try clear c4
                try clear c8
                try clear c12
                try clear c12b0
                try clear c12b1
                try clear c13
                try clear c13b0
                try clear c14
                try clear c14b0
                try clear c14b1
                try clear c14b2
                try clear c15
                try clear c15b0
                try clear c15b1
                try clear c16
                try clear c17
                try clear c17b0
                try clear c17b1
                try clear c18
                try clear c18b0
                try clear c18b1
                try clear c19
                try clear c19b0
                try clear c19b1
                try clear c19b2
                try clear c20
                try clear c20b0
                try clear c20b1
                try clear c21
                try clear c22
                try clear c22b0
                try clear c22b1
                try clear c23
                try clear c23b0
                try clear c23b1
                try clear c24
                try clear c25
                try clear c25b0
                try clear c25b1
                try clear c27
                try clear c27b0
                try clear c27b1
                try clear c29
                try clear c29b0
                try clear p2
                obtain ⟨kq, x96_27, rfl, HA, HJ27, HB⟩ := hcut
                cases kq with
                | zero => exact absurd HA.out (by simp [abacistlaw08_TwidRoots.j1])
                | succ kj27 =>
                  have H := HA.out
                  clear HA
                  simp only [abacistlaw08_TwidRoots.j1] at H
                  by_cases c30 : x96_27 = true
                  · subst c30
                    have H1 : (some true) = some r := by rw [if_pos rfl] at H; exact H
                    clear H
                    have H := H1
                    clear H1
                    obtain rfl := Option.some.inj H
                    go_wp2
                    go_ret
                    exact ⟨by first | rfl | (simp [errW_none, errW_some] <;> rfl) | (simp [*, errW_none, errW_some] <;> rfl), by repeat (first | (with_reducible first | exact HB.out | apply below_alloc | apply pw_below_drewN | apply below_drew1) | exact HB.out)⟩
                  · replace c30 := Bool.eq_false_iff.mpr c30
                    subst c30
                    have H1 : ((twid_Table.f kj27 a0 a1).bind fun bt238 => (if a0 > 20 then (if bt238.2 = 14 then (some ((bt238.1.length : Int) == 0)) else (some false)) else (abacistlaw08_TwidRoots.l0 kj27 a0 t226 bt238.1 bt238.2 1 1))) = some r := by rw [if_neg (show ¬ (false = true) by decide)] at H; exact H
                    clear H
                    have H := H1
                    clear H1
                    replace H := Option.bind_eq_some_iff.mp H
                    obtain ⟨⟨t238, t239⟩, A310, H⟩ := H
                    replace H : (if a0 > 20 then (if t239 = 14 then (some ((t238.length : Int) == 0)) else (some false)) else (abacistlaw08_TwidRoots.l0 kj27 a0 t226 t238 t239 1 1)) = some r := H
                    have A31 := Aside0.mk A310
                    clear A310
                    by_cases c32 : a0 > 20
                    · rw [if_pos c32] at H
                      have c32b0 : decide (20 < a0) = true := decide_eq_true c32
                      clear c32
                      by_cases c33 : t239 = 14
                      · rw [if_pos c33] at H
                        have c33b0 : (t239 == 14) = true := beq_iff_eq.mpr c33
                        have c33b1 : (t239 != 14) = false := bne_eq_false_iff_eq.mpr c33
                        clear c33
                        obtain rfl := Option.some.inj H
                        go_wp2_with (first | ((with_reducible refine gate_callee (f := 20) rfl ?_); refine goesL_ (some 100) rfl rfl Tryd.func20 (by kernel_rfl) rfl #[.int .i64 a0, .int .i64 a1] rfl (by (try simp only [List.map_toArray, List.map_cons, List.map_nil]); first | done | rfl | (simp only [List.length_drop, List.length_take]; rfl)) ?_; (with_reducible refine (twid_Table.calls kj27 a0 a1 t238 t239 _ A31.out).mono ?_); rintro e w34 ⟨v240, rfl, ho0, hb⟩; refine ⟨_, rfl, ?_⟩; have n0_ := Aside0.mk (Kd.R_lower ho0 (below_size (by repeat (first | (with_reducible first | exact HB.out | apply below_alloc | apply pw_below_drewN | apply below_drew1) | exact HB.out)))); have n1_ := Aside0.mk (below_step (by repeat (first | (with_reducible first | exact HB.out | apply below_alloc | apply pw_below_drewN | apply below_drew1) | exact HB.out)) hb); clear HB; have HO241 := n0_; have HB := n1_; clear n0_ n1_; (try clear hb); (try clear hb2); (try clear hk); (try clear hi); (try clear ho0); obtain ⟨Ao35, co35, eo35⟩ := Kd.R_slice HO241.out; subst eo35) | (go_at_call 20; (with_reducible refine (twid_Table.calls kj27 a0 a1 t238 t239 _ A31.out).mono ?_); rintro e w34 ⟨v240, rfl, ho0, hb⟩; have n0_ := Aside0.mk (Kd.R_lower ho0 (below_size (by repeat (first | (with_reducible first | exact HB.out | apply below_alloc | apply pw_below_drewN | apply below_drew1) | exact HB.out)))); have n1_ := Aside0.mk (below_step (by repeat (first | (with_reducible first | exact HB.out | apply below_alloc | apply pw_below_drewN | apply below_drew1) | exact HB.out)) hb); clear HB; have HO241 := n0_; have HB := n1_; clear n0_ n1_; (try clear hb); (try clear hb2); (try clear hk); (try clear hi); (try clear ho0); obtain ⟨Ao35, co35, eo35⟩ := Kd.R_slice HO241.out; subst eo35))
                        go_ret
                        exact ⟨by first | rfl | (simp [errW_none, errW_some] <;> rfl) | (simp [*, errW_none, errW_some] <;> rfl), by repeat (first | (with_reducible first | exact HB.out | apply below_alloc | apply pw_below_drewN | apply below_drew1) | exact HB.out)⟩
                      · rw [if_neg c33] at H
                        have c33b0 : (t239 == 14) = false := beq_eq_false_iff_ne.mpr c33
                        have c33b1 : (t239 != 14) = true := bne_iff_ne.mpr c33
                        obtain rfl := Option.some.inj H
                        exact absurd hr_.out (by decide)
                    · rw [if_neg c32] at H
                      have c32b0 : decide (20 < a0) = false := decide_eq_false c32
                      clear c32
                      have H' := Aside0.mk H
                      clear H
                      go_wp2_with (first | ((with_reducible refine gate_callee (f := 20) rfl ?_); refine goesL_ (some 100) rfl rfl Tryd.func20 (by kernel_rfl) rfl #[.int .i64 a0, .int .i64 a1] rfl (by (try simp only [List.map_toArray, List.map_cons, List.map_nil]); first | done | rfl | (simp only [List.length_drop, List.length_take]; rfl)) ?_; (with_reducible refine (twid_Table.calls kj27 a0 a1 t238 t239 _ A31.out).mono ?_); rintro e w36 ⟨v240, rfl, ho0, hb⟩; refine ⟨_, rfl, ?_⟩; have n0_ := Aside0.mk (Kd.R_lower ho0 (below_size (by repeat (first | (with_reducible first | exact HB.out | apply below_alloc | apply pw_below_drewN | apply below_drew1) | exact HB.out)))); have n1_ := Aside0.mk (below_step (by repeat (first | (with_reducible first | exact HB.out | apply below_alloc | apply pw_below_drewN | apply below_drew1) | exact HB.out)) hb); clear HB; have HO241 := n0_; have HB := n1_; clear n0_ n1_; (try clear hb); (try clear hb2); (try clear hk); (try clear hi); (try clear ho0)) | (go_at_call 20; (with_reducible refine (twid_Table.calls kj27 a0 a1 t238 t239 _ A31.out).mono ?_); rintro e w36 ⟨v240, rfl, ho0, hb⟩; have n0_ := Aside0.mk (Kd.R_lower ho0 (below_size (by repeat (first | (with_reducible first | exact HB.out | apply below_alloc | apply pw_below_drewN | apply below_drew1) | exact HB.out)))); have n1_ := Aside0.mk (below_step (by repeat (first | (with_reducible first | exact HB.out | apply below_alloc | apply pw_below_drewN | apply below_drew1) | exact HB.out)) hb); clear HB; have HO241 := n0_; have HB := n1_; clear n0_ n1_; (try clear hb); (try clear hb2); (try clear hk); (try clear hi); (try clear ho0)))
                      go_loopg [13, 14] kj27 (fun kq v13 v14 w' => ∃ (x13_3 : Int) (x14_3 : Int), v13 = .int .i64 x13_3 ∧ v14 = .int .i64 x14_3 ∧ Aside0 (abacistlaw08_TwidRoots.l0 kq a0 t226 t238 t239 x13_3 x14_3 = some r) ∧ Aside0 (kq ≤ kj27) ∧ Aside0 (Kd.R (Kd.int .u64) 32 w' w.heap.size (fun _ => True) v240 t238) ∧ Aside0 (Below w.heap.size w w'))
                      case atStart => exact ⟨(1), (1), (by first | rfl | (simp; done) | (exact (‹Aside0 False›).out.elim) | (simp [*]; done)), (by first | rfl | (simp; done) | (exact (‹Aside0 False›).out.elim) | (simp [*]; done)), H', ⟨Nat.le_refl _⟩, ⟨by (with_reducible repeat (first | apply Kd.R_alloc | apply Kd.R_drewN | apply Kd.R_drew)); exact HO241.out⟩, ⟨by repeat (first | (with_reducible first | exact HB.out | apply below_alloc | apply pw_below_drewN | apply below_drew1) | exact HB.out)⟩⟩
                      case round =>
                        clear H'
                        try clear c1
                        try clear c2
                        try clear p2
                        try clear c3
                        try clear c4
                        try clear c8
                        try clear c12
                        try clear c12b0
                        try clear c12b1
                        try clear c13
                        try clear c13b0
                        try clear c14
                        try clear c14b0
                        try clear c14b1
                        try clear c14b2
                        try clear c15
                        try clear c15b0
                        try clear c15b1
                        try clear c16
                        try clear c17
                        try clear c17b0
                        try clear c17b1
                        try clear c18
                        try clear c18b0
                        try clear c18b1
                        try clear c19
                        try clear c19b0
                        try clear c19b1
                        try clear c19b2
                        try clear c20
                        try clear c20b0
                        try clear c20b1
                        try clear c21
                        try clear c22
                        try clear c22b0
                        try clear c22b1
                        try clear c23
                        try clear c23b0
                        try clear c23b1
                        try clear c24
                        try clear c25
                        try clear c25b0
                        try clear c25b1
                        try clear c27
                        try clear c27b0
                        try clear c27b1
                        try clear c29
                        try clear c29b0
                        try clear c30
                        try clear c32
                        try clear c32b0
                        try clear c33
                        try clear c33b0
                        try clear c33b1
                        try clear p2
                        obtain ⟨x13_3, x14_3, rfl, rfl, HA, HK3, HO_11, HB⟩ := hrel
                        cases gk with
                        | zero => exact absurd HA.out (by simp [abacistlaw08_TwidRoots.l0])
                        | succ k3 =>
                          have H := HA.out
                          clear HA
                          simp only [abacistlaw08_TwidRoots.l0] at H
                          by_cases c37 : x14_3 < a0
                          · rw [if_pos c37] at H
                            have c37b0 : decide (x14_3 < a0) = true := decide_eq_true c37
                            clear c37
                            have H' := Aside0.mk H
                            clear H
                            go_wp2
                            (first | go_roundg k3 | (simp only [add_plain] at *; go_roundg k3))
                            case measure => have := HJ6.out; have := HJ27.out; have := HK3.out; omega
                            case rel => exact ⟨(wrap64 (2 * x13_3)), (wrap64 (x14_3 + 1)), (by first | rfl | (simp; done) | (exact (‹Aside0 False›).out.elim) | (simp [*]; done)), (by first | rfl | (simp; done) | (exact (‹Aside0 False›).out.elim) | (simp [*]; done)), H', ⟨by have := HJ6.out; have := HJ27.out; have := HK3.out; omega⟩, ⟨by (with_reducible repeat (first | apply Kd.R_alloc | apply Kd.R_drewN | apply Kd.R_drew)); exact HO_11.out⟩, ⟨by repeat (first | (with_reducible first | exact HB.out | apply below_alloc | apply pw_below_drewN | apply below_drew1) | exact HB.out)⟩⟩
                          · rw [if_neg c37] at H
                            have c37b0 : decide (x14_3 < a0) = false := decide_eq_false c37
                            clear c37
                            by_cases c38 : t239 = 0
                            · rw [if_pos c38] at H
                              have c38b0 : (t239 == 0) = true := beq_iff_eq.mpr c38
                              have c38b1 : (t239 != 0) = false := bne_eq_false_iff_eq.mpr c38
                              clear c38
                              replace H := Option.bind_eq_some_iff.mp H
                              obtain ⟨t242, A390, H⟩ := H
                              replace H : ((abacistref04_Same.f k3 t238 t242).bind fun t245 => (some t245)) = some r := H
                              have A39 := Aside0.mk A390
                              clear A390
                              replace H := Option.bind_eq_some_iff.mp H
                              obtain ⟨t245, A400, H⟩ := H
                              replace H : (some t245) = some r := H
                              have A40 := Aside0.mk A400
                              clear A400
                              obtain rfl := Option.some.inj H
                              go_wp2_with (first | (go_at_call 22; (with_reducible refine (abacistref03_Powers.calls k3 t226 x13_3 t242 _ A39.out).mono ?_); rintro e w41 ⟨v243, rfl, ho0, hb⟩; have n0_ := Aside0.mk (Kd.R_elder' (by (with_reducible repeat (first | apply Kd.R_alloc | apply Kd.R_drewN | apply Kd.R_drew)); exact HO_11.out) (Kd.R_base ho0) hb); have n1_ := Aside0.mk (Kd.R_lower (Kd.R_new' ho0 (Kd.R_lt (by (with_reducible repeat (first | apply Kd.R_alloc | apply Kd.R_drewN | apply Kd.R_drew)); exact HO_11.out))) (below_size (by repeat (first | (with_reducible first | exact HB.out | apply below_alloc | apply pw_below_drewN | apply below_drew1) | exact HB.out)))); have n2_ := Aside0.mk (below_step (by repeat (first | (with_reducible first | exact HB.out | apply below_alloc | apply pw_below_drewN | apply below_drew1) | exact HB.out)) hb); clear HO_11; clear HB; have HO_11 := n0_; have HO244 := n1_; have HB := n2_; clear n0_ n1_ n2_; (try clear hb); (try clear hb2); (try clear hk); (try clear hi); (try clear ho0); obtain ⟨Ao42, co42, eo42⟩ := Kd.R_slice HO_11.out; subst eo42; obtain ⟨Ao43, co43, eo43⟩ := Kd.R_slice HO244.out; subst eo43) | (go_at_call 11; (with_reducible refine (abacistref04_Same.calls k3 _ _ t238 _ _ t242 t245 _ ?side1 ?side2 ?side3 ?side4 A40.out).mono ?_); (case side1 => repeat (first | exact (Kd.R_reads' HO_11.out).2.2 | (with_reducible refine Kd.C_alloc ?_ _) | (with_reducible refine Kd.C_drewN ?_ _) | (with_reducible refine Kd.C_drew ?_))); (case side2 => exact (Kd.R_reads' HO_11.out).2.1); (case side3 => repeat (first | exact (Kd.R_reads' HO244.out).2.2 | (with_reducible refine Kd.C_alloc ?_ _) | (with_reducible refine Kd.C_drewN ?_ _) | (with_reducible refine Kd.C_drew ?_))); (case side4 => exact (Kd.R_reads' HO244.out).2.1); rintro e w' ⟨rfl, ⟨nd, rfl⟩⟩))
                              go_ret
                              exact ⟨by first | rfl | (simp [errW_none, errW_some] <;> rfl) | (simp [*, errW_none, errW_some] <;> rfl), by repeat (first | (with_reducible first | exact HB.out | apply below_alloc | apply pw_below_drewN | apply below_drew1) | exact HB.out)⟩
                            · rw [if_neg c38] at H
                              have c38b0 : (t239 == 0) = false := beq_eq_false_iff_ne.mpr c38
                              have c38b1 : (t239 != 0) = true := bne_iff_ne.mpr c38
                              obtain rfl := Option.some.inj H
                              exact absurd hr_.out (by decide)
            · rw [if_neg c27] at H
              have c27b0 : (t226 == t237) = false := beq_eq_false_iff_ne.mpr c27
              have c27b1 : (t226 != t237) = true := bne_iff_ne.mpr c27
              obtain rfl := Option.some.inj H
              exact absurd hr_.out (by decide)
          · rw [if_neg c25] at H
            have c25b0 : (t227 == 0) = false := beq_eq_false_iff_ne.mpr c25
            have c25b1 : (t227 != 0) = true := bne_iff_ne.mpr c25
            replace H := Option.bind_eq_some_iff.mp H
            obtain ⟨⟨t233, t234⟩, A440, H⟩ := H
            replace H : (if t226 = 0 then (if t234 = t227 then (some ((t233.length : Int) == 0)) else (some false)) else (some false)) = some r := H
            have A44 := Aside0.mk A440
            clear A440
            by_cases c45 : t226 = 0
            · rw [if_pos c45] at H
              have c45b0 : (t226 == 0) = true := beq_iff_eq.mpr c45
              have c45b1 : (t226 != 0) = false := bne_eq_false_iff_eq.mpr c45
              clear c45
              by_cases c46 : t234 = t227
              · rw [if_pos c46] at H
                have c46b0 : (t234 == t227) = true := beq_iff_eq.mpr c46
                have c46b1 : (t234 != t227) = false := bne_eq_false_iff_eq.mpr c46
                clear c46
                obtain rfl := Option.some.inj H
                go_wp2_with (first | ((with_reducible refine gate_callee (f := 20) rfl ?_); refine goesL_ (some 71) rfl rfl Tryd.func20 (by kernel_rfl) rfl #[.int .i64 a0, .int .i64 a1] rfl (by (try simp only [List.map_toArray, List.map_cons, List.map_nil]); first | done | rfl | (simp only [List.length_drop, List.length_take]; rfl)) ?_; (with_reducible refine (twid_Table.calls kj6 a0 a1 t233 t234 _ A44.out).mono ?_); rintro e w47 ⟨v235, rfl, ho0, hb⟩; refine ⟨_, rfl, ?_⟩; have n0_ := Aside0.mk (Kd.R_lower ho0 (below_size (by repeat (first | (with_reducible first | exact HB.out | apply below_alloc | apply pw_below_drewN | apply below_drew1) | exact HB.out)))); have n1_ := Aside0.mk (below_step (by repeat (first | (with_reducible first | exact HB.out | apply below_alloc | apply pw_below_drewN | apply below_drew1) | exact HB.out)) hb); clear HB; have HO236 := n0_; have HB := n1_; clear n0_ n1_; (try clear hb); (try clear hb2); (try clear hk); (try clear hi); (try clear ho0); obtain ⟨Ao48, co48, eo48⟩ := Kd.R_slice HO236.out; subst eo48) | (go_at_call 20; (with_reducible refine (twid_Table.calls kj6 a0 a1 t233 t234 _ A44.out).mono ?_); rintro e w47 ⟨v235, rfl, ho0, hb⟩; have n0_ := Aside0.mk (Kd.R_lower ho0 (below_size (by repeat (first | (with_reducible first | exact HB.out | apply below_alloc | apply pw_below_drewN | apply below_drew1) | exact HB.out)))); have n1_ := Aside0.mk (below_step (by repeat (first | (with_reducible first | exact HB.out | apply below_alloc | apply pw_below_drewN | apply below_drew1) | exact HB.out)) hb); clear HB; have HO236 := n0_; have HB := n1_; clear n0_ n1_; (try clear hb); (try clear hb2); (try clear hk); (try clear hi); (try clear ho0); obtain ⟨Ao48, co48, eo48⟩ := Kd.R_slice HO236.out; subst eo48))
                go_ret
                exact ⟨by first | rfl | (simp [errW_none, errW_some] <;> rfl) | (simp [*, errW_none, errW_some] <;> rfl), by repeat (first | (with_reducible first | exact HB.out | apply below_alloc | apply pw_below_drewN | apply below_drew1) | exact HB.out)⟩
              · rw [if_neg c46] at H
                have c46b0 : (t234 == t227) = false := beq_eq_false_iff_ne.mpr c46
                have c46b1 : (t234 != t227) = true := bne_iff_ne.mpr c46
                obtain rfl := Option.some.inj H
                exact absurd hr_.out (by decide)
            · rw [if_neg c45] at H
              have c45b0 : (t226 == 0) = false := beq_eq_false_iff_ne.mpr c45
              have c45b1 : (t226 != 0) = true := bne_iff_ne.mpr c45
              obtain rfl := Option.some.inj H
              exact absurd hr_.out (by decide)
  · replace c4 := Bool.eq_false_iff.mpr c4
    subst c4
    have H1 : (some false) = some r := by rw [if_neg (show ¬ (false = true) by decide)] at H; exact H
    clear H
    have H := H1
    clear H1
    obtain rfl := Option.some.inj H
    exact absurd hr_.out (by decide)

/-- THE ONE PURE STATEMENT of abacistlaw08_TwidRoots: yours. -/
def abacistlaw08_TwidRoots.Pure : Prop := ∀ (a0 : Int) (a1 : Int), (Lit.int .i64 a0).wf = true → (Lit.int .i64 a1).wf = true → ∃ k, abacistlaw08_TwidRoots.f k a0 a1 = some true
theorem abacistlaw08_TwidRoots.walk (P : abacistlaw08_TwidRoots.Pure) (a0 : Int) (a1 : Int) (w : World) (hG : Aside0 (TzTab w)) (w0 : (Lit.int .i64 a0).wf = true) (w1 : (Lit.int .i64 a1).wf = true) :
    Calls Tryd.prog 4 #[.int .i64 a0, .int .i64 a1] w fun e w' => e = .returned (.bool true) ∧ Below w.heap.size w w' := by
  obtain ⟨k, h⟩ := P a0 a1 w0 w1
  refine (abacistlaw08_TwidRoots.calls k a0 a1 true ⟨rfl⟩ w hG h).mono ?_
  rintro e w' ⟨rfl, hd⟩
  exact ⟨rfl, hd⟩

end Go.Proofs.YtlifdpaamcdmfaaDoor.PTwidRoots
