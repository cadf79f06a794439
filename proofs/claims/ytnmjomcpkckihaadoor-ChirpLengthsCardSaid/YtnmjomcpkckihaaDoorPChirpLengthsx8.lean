-- Written for this claim by wip/gen/mk.sh, this session's own driver over the kit's print
import Derived.Test.YtnmjomcpkckihaaDoorPChirpLengthsx0
import Derived.Test.YtnmjomcpkckihaaDoorPChirpLengthsx1
import Derived.Test.YtnmjomcpkckihaaDoorPChirpLengthsx6
import Derived.Test.YtnmjomcpkckihaaDoorPChirpLengthsx7
namespace Go.Proofs.YtnmjomcpkckihaaDoor.PChirpLengths
open Go.RowKit Go.Proofs.YtnmjomcpkckihaaDoorW.PrintWords Go.Proofs.YtnmjomcpkckihaaDoorW.PrintLast Go.Proofs.YtnmjomcpkckihaaDoorW.PrintMore
attribute [local go_sem] max2_int min2_int max_two min_two max_three min_three max_four min_four   -- for this text's walks alone
set_option linter.unusedVariables false
set_option linter.unusedSimpArgs false

/-! ### abacistlaw29_ChirpLengths: function 4 -/
mutual
def abacistlaw29_ChirpLengths.j0 : Nat → Int → Int → Bool → List Int → Int → Int → Int → Bool → Option (Bool)
  | 0, _, _, _, _, _, _, _, _ => none
  | k + 1, x0, x1, x5, x6, x7, x8, x9, x61 => if x61 = true then (some false) else (abacistlaw29_ChirpLengths.l0 k x0 x1 x5 x6 x7 x8 x9 (mx x0 1))
def abacistlaw29_ChirpLengths.l0 : Nat → Int → Int → Bool → List Int → Int → Int → Int → Int → Option (Bool)
  | 0, _, _, _, _, _, _, _, _ => none
  | k + 1, x0, x1, x5, x6, x7, x8, x9, x11 => if x11 < x9 then ((abacistref29_Goes.f x11).bind fun t264 => (if t264 = true then (some false) else (abacistlaw29_ChirpLengths.l0 k x0 x1 x5 x6 x7 x8 x9 (wrap64 (x11 + 1))))) else (if x5 = true then (abacistlaw29_ChirpLengths.l1 k x0 x1 x6 x7 x8 1 0) else (if (x6.length : Int) = 0 then (if x8 = 4 then (some (x7 == 0)) else (some false)) else (some false)))
def abacistlaw29_ChirpLengths.l1 : Nat → Int → Int → List Int → Int → Int → Int → Int → Option (Bool)
  | 0, _, _, _, _, _, _, _ => none
  | k + 1, x0, x1, x6, x7, x8, x12, x13 => if x13 < (x6.length : Int) then (if 0 ≤ x13 then (if (rd x6 x13) = 2 then (if x13 > 0 then (if 0 ≤ (wrap64 (x13 - 1)) then (if (wrap64 (x13 - 1)) < (x6.length : Int) then (if (rd x6 x13) < (rd x6 (wrap64 (x13 - 1))) then (some false) else (abacistlaw29_ChirpLengths.l1 k x0 x1 x6 x7 x8 (wrap64 (x12 * (rd x6 x13))) (wrap64 (x13 + 1)))) else (none)) else (none)) else (abacistlaw29_ChirpLengths.l1 k x0 x1 x6 x7 x8 (wrap64 (x12 * (rd x6 x13))) (wrap64 (x13 + 1)))) else (if (rd x6 x13) = 3 then (if x13 > 0 then (if 0 ≤ (wrap64 (x13 - 1)) then (if (wrap64 (x13 - 1)) < (x6.length : Int) then (if (rd x6 x13) < (rd x6 (wrap64 (x13 - 1))) then (some false) else (abacistlaw29_ChirpLengths.l1 k x0 x1 x6 x7 x8 (wrap64 (x12 * (rd x6 x13))) (wrap64 (x13 + 1)))) else (none)) else (none)) else (abacistlaw29_ChirpLengths.l1 k x0 x1 x6 x7 x8 (wrap64 (x12 * (rd x6 x13))) (wrap64 (x13 + 1)))) else (if (rd x6 x13) = 5 then (if x13 > 0 then (if 0 ≤ (wrap64 (x13 - 1)) then (if (wrap64 (x13 - 1)) < (x6.length : Int) then (if (rd x6 x13) < (rd x6 (wrap64 (x13 - 1))) then (some false) else (abacistlaw29_ChirpLengths.l1 k x0 x1 x6 x7 x8 (wrap64 (x12 * (rd x6 x13))) (wrap64 (x13 + 1)))) else (none)) else (none)) else (abacistlaw29_ChirpLengths.l1 k x0 x1 x6 x7 x8 (wrap64 (x12 * (rd x6 x13))) (wrap64 (x13 + 1)))) else (if (rd x6 x13) = 17 then (if x13 > 0 then (if 0 ≤ (wrap64 (x13 - 1)) then (if (wrap64 (x13 - 1)) < (x6.length : Int) then (if (rd x6 x13) < (rd x6 (wrap64 (x13 - 1))) then (some false) else (abacistlaw29_ChirpLengths.l1 k x0 x1 x6 x7 x8 (wrap64 (x12 * (rd x6 x13))) (wrap64 (x13 + 1)))) else (none)) else (none)) else (abacistlaw29_ChirpLengths.l1 k x0 x1 x6 x7 x8 (wrap64 (x12 * (rd x6 x13))) (wrap64 (x13 + 1)))) else (if (rd x6 x13) = 257 then (if x13 > 0 then (if 0 ≤ (wrap64 (x13 - 1)) then (if (wrap64 (x13 - 1)) < (x6.length : Int) then (if (rd x6 x13) < (rd x6 (wrap64 (x13 - 1))) then (some false) else (abacistlaw29_ChirpLengths.l1 k x0 x1 x6 x7 x8 (wrap64 (x12 * (rd x6 x13))) (wrap64 (x13 + 1)))) else (none)) else (none)) else (abacistlaw29_ChirpLengths.l1 k x0 x1 x6 x7 x8 (wrap64 (x12 * (rd x6 x13))) (wrap64 (x13 + 1)))) else (some false)))))) else (none)) else (if x1 = 0 then (if x12 = x0 then (if x8 = 0 then ((abacistref29_Root.f k x0 x1).bind fun t290 => (some (x7 == t290))) else (some false)) else (some false)) else (if x1 = 1 then (if x12 = x0 then (if x8 = 0 then ((abacistref29_Root.f k x0 x1).bind fun t291 => (some (x7 == t291))) else (some false)) else (some false)) else (if x12 = x0 then (if x8 = 18 then (some (x7 == 0)) else (some false)) else (some false))))
end
def abacistlaw29_ChirpLengths.f (k : Nat) (a0 : Int) (a1 : Int) : Option (Bool) := (abacistlaw29_awake.f k).bind fun t253 => (if t253 = true then ((abacistref29_Goes.f a0).bind fun t254 => ((chirp_Factors.f k a0).bind fun t255 => ((chirp_Root.f k a0 a1).bind fun bt258 => ((chirp_Next.f k a0).bind fun bt260 => ((chirp_Goes.f a0).bind fun t262 => (if (t262 != t254) = true then (abacistlaw29_ChirpLengths.j0 k a0 a1 t254 t255 bt258.1 bt258.2 bt260.1 true) else (if (bt260.2 != (decide (a0 ≤ 65536))) = true then (abacistlaw29_ChirpLengths.j0 k a0 a1 t254 t255 bt258.1 bt258.2 bt260.1 true) else (if bt260.2 = true then (if bt260.1 < a0 then (abacistlaw29_ChirpLengths.j0 k a0 a1 t254 t255 bt258.1 bt258.2 bt260.1 true) else ((abacistref29_Goes.f bt260.1).bind fun t263 => (if t263 = true then (abacistlaw29_ChirpLengths.j0 k a0 a1 t254 t255 bt258.1 bt258.2 bt260.1 false) else (abacistlaw29_ChirpLengths.j0 k a0 a1 t254 t255 bt258.1 bt258.2 bt260.1 true)))) else (abacistlaw29_ChirpLengths.j0 k a0 a1 t254 t255 bt258.1 bt258.2 bt260.1 (bt260.1 != 0)))))))))) else (some false))
theorem abacistlaw29_ChirpLengths.mono_l : ∀ k, (∀ y0 y1 y2 y3 y4 y5 y6 y7, LeO (abacistlaw29_ChirpLengths.j0 k y0 y1 y2 y3 y4 y5 y6 y7) (abacistlaw29_ChirpLengths.j0 (k + 1) y0 y1 y2 y3 y4 y5 y6 y7)) ∧ (∀ y0 y1 y2 y3 y4 y5 y6 y7, LeO (abacistlaw29_ChirpLengths.l0 k y0 y1 y2 y3 y4 y5 y6 y7) (abacistlaw29_ChirpLengths.l0 (k + 1) y0 y1 y2 y3 y4 y5 y6 y7)) ∧ (∀ y0 y1 y2 y3 y4 y5 y6, LeO (abacistlaw29_ChirpLengths.l1 k y0 y1 y2 y3 y4 y5 y6) (abacistlaw29_ChirpLengths.l1 (k + 1) y0 y1 y2 y3 y4 y5 y6))
  | 0 => ⟨fun _ _ _ _ _ _ _ _ r h => by simp [abacistlaw29_ChirpLengths.j0] at h, fun _ _ _ _ _ _ _ _ r h => by simp [abacistlaw29_ChirpLengths.l0] at h, fun _ _ _ _ _ _ _ r h => by simp [abacistlaw29_ChirpLengths.l1] at h⟩
  | k + 1 => by
    obtain ⟨ih0, ih1, ih2⟩ := abacistlaw29_ChirpLengths.mono_l k
    refine ⟨?_, ?_, ?_⟩
    · intro y0 y1 y2 y3 y4 y5 y6 y7
      unfold abacistlaw29_ChirpLengths.j0
      repeat' first
      | (with_reducible exact ih0 _ _ _ _ _ _ _ _)
      | (with_reducible exact ih1 _ _ _ _ _ _ _ _)
      | (with_reducible exact ih2 _ _ _ _ _ _ _)
      | (with_reducible exact abacistlaw29_awake.mono _)
      | (with_reducible exact abacistref29_Root.mono _ _ _)
      | (with_reducible exact chirp_Factors.mono _ _)
      | (with_reducible exact chirp_Next.mono _ _)
      | (with_reducible exact chirp_Root.mono _ _ _)
      | (with_reducible exact LeO.refl _)
      | (with_reducible exact LeO.none _)
      | (with_reducible refine LeO.ite ?_ ?_)
      | (with_reducible refine LeO.bind ?_ (fun _ => ?_))
      | exact ih0 _ _ _ _ _ _ _ _
      | exact ih1 _ _ _ _ _ _ _ _
      | exact ih2 _ _ _ _ _ _ _
      | exact abacistlaw29_awake.mono _
      | exact abacistref29_Root.mono _ _ _
      | exact chirp_Factors.mono _ _
      | exact chirp_Next.mono _ _
      | exact chirp_Root.mono _ _ _
      | exact LeO.none _
      | refine LeO.ite ?_ ?_
      | refine LeO.bind ?_ (fun _ => ?_)
    · intro y0 y1 y2 y3 y4 y5 y6 y7
      unfold abacistlaw29_ChirpLengths.l0
      repeat' first
      | (with_reducible exact ih0 _ _ _ _ _ _ _ _)
      | (with_reducible exact ih1 _ _ _ _ _ _ _ _)
      | (with_reducible exact ih2 _ _ _ _ _ _ _)
      | (with_reducible exact abacistlaw29_awake.mono _)
      | (with_reducible exact abacistref29_Root.mono _ _ _)
      | (with_reducible exact chirp_Factors.mono _ _)
      | (with_reducible exact chirp_Next.mono _ _)
      | (with_reducible exact chirp_Root.mono _ _ _)
      | (with_reducible exact LeO.refl _)
      | (with_reducible exact LeO.none _)
      | (with_reducible refine LeO.ite ?_ ?_)
      | (with_reducible refine LeO.bind ?_ (fun _ => ?_))
      | exact ih0 _ _ _ _ _ _ _ _
      | exact ih1 _ _ _ _ _ _ _ _
      | exact ih2 _ _ _ _ _ _ _
      | exact abacistlaw29_awake.mono _
      | exact abacistref29_Root.mono _ _ _
      | exact chirp_Factors.mono _ _
      | exact chirp_Next.mono _ _
      | exact chirp_Root.mono _ _ _
      | exact LeO.none _
      | refine LeO.ite ?_ ?_
      | refine LeO.bind ?_ (fun _ => ?_)
    · intro y0 y1 y2 y3 y4 y5 y6
      unfold abacistlaw29_ChirpLengths.l1
      repeat' first
      | (with_reducible exact ih0 _ _ _ _ _ _ _ _)
      | (with_reducible exact ih1 _ _ _ _ _ _ _ _)
      | (with_reducible exact ih2 _ _ _ _ _ _ _)
      | (with_reducible exact abacistlaw29_awake.mono _)
      | (with_reducible exact abacistref29_Root.mono _ _ _)
      | (with_reducible exact chirp_Factors.mono _ _)
      | (with_reducible exact chirp_Next.mono _ _)
      | (with_reducible exact chirp_Root.mono _ _ _)
      | (with_reducible exact LeO.refl _)
      | (with_reducible exact LeO.none _)
      | (with_reducible refine LeO.ite ?_ ?_)
      | (with_reducible refine LeO.bind ?_ (fun _ => ?_))
      | exact ih0 _ _ _ _ _ _ _ _
      | exact ih1 _ _ _ _ _ _ _ _
      | exact ih2 _ _ _ _ _ _ _
      | exact abacistlaw29_awake.mono _
      | exact abacistref29_Root.mono _ _ _
      | exact chirp_Factors.mono _ _
      | exact chirp_Next.mono _ _
      | exact chirp_Root.mono _ _ _
      | exact LeO.none _
      | refine LeO.ite ?_ ?_
      | refine LeO.bind ?_ (fun _ => ?_)
theorem abacistlaw29_ChirpLengths.mono : ∀ a0 a1 k, LeO (abacistlaw29_ChirpLengths.f k a0 a1) (abacistlaw29_ChirpLengths.f (k + 1) a0 a1) := by
  intro a0 a1 k
  obtain ⟨ih0, ih1, ih2⟩ := abacistlaw29_ChirpLengths.mono_l k
  unfold abacistlaw29_ChirpLengths.f
  repeat' first
      | (with_reducible exact ih0 _ _ _ _ _ _ _ _)
      | (with_reducible exact ih1 _ _ _ _ _ _ _ _)
      | (with_reducible exact ih2 _ _ _ _ _ _ _)
      | (with_reducible exact abacistlaw29_awake.mono _)
      | (with_reducible exact abacistref29_Root.mono _ _ _)
      | (with_reducible exact chirp_Factors.mono _ _)
      | (with_reducible exact chirp_Next.mono _ _)
      | (with_reducible exact chirp_Root.mono _ _ _)
      | (with_reducible exact LeO.refl _)
      | (with_reducible exact LeO.none _)
      | (with_reducible refine LeO.ite ?_ ?_)
      | (with_reducible refine LeO.bind ?_ (fun _ => ?_))
      | exact ih0 _ _ _ _ _ _ _ _
      | exact ih1 _ _ _ _ _ _ _ _
      | exact ih2 _ _ _ _ _ _ _
      | exact abacistlaw29_awake.mono _
      | exact abacistref29_Root.mono _ _ _
      | exact chirp_Factors.mono _ _
      | exact chirp_Next.mono _ _
      | exact chirp_Root.mono _ _ _
      | exact LeO.none _
      | refine LeO.ite ?_ ?_
      | refine LeO.bind ?_ (fun _ => ?_)
set_option maxHeartbeats 80000000 in
set_option maxRecDepth 100000 in
theorem abacistlaw29_ChirpLengths.calls (k : Nat) (a0 : Int) (a1 : Int) (r : Bool) (hr_ : Aside0 (r = true)) (w : World) (hG : Aside0 (TzTab w)) (h : abacistlaw29_ChirpLengths.f k a0 a1 = some r) :
    Calls Tryd.prog 4 #[.int .i64 a0, .int .i64 a1] w fun e w' => e = .returned (.bool r) ∧ Below w.heap.size w w' := by
  have HB := Aside0.mk (Below.refl w.heap.size w)
  have H : ((abacistlaw29_awake.f k).bind fun t253 => (if t253 = true then ((abacistref29_Goes.f a0).bind fun t254 => ((chirp_Factors.f k a0).bind fun t255 => ((chirp_Root.f k a0 a1).bind fun bt258 => ((chirp_Next.f k a0).bind fun bt260 => ((chirp_Goes.f a0).bind fun t262 => (if (t262 != t254) = true then (abacistlaw29_ChirpLengths.j0 k a0 a1 t254 t255 bt258.1 bt258.2 bt260.1 true) else (if (bt260.2 != (decide (a0 ≤ 65536))) = true then (abacistlaw29_ChirpLengths.j0 k a0 a1 t254 t255 bt258.1 bt258.2 bt260.1 true) else (if bt260.2 = true then (if bt260.1 < a0 then (abacistlaw29_ChirpLengths.j0 k a0 a1 t254 t255 bt258.1 bt258.2 bt260.1 true) else ((abacistref29_Goes.f bt260.1).bind fun t263 => (if t263 = true then (abacistlaw29_ChirpLengths.j0 k a0 a1 t254 t255 bt258.1 bt258.2 bt260.1 false) else (abacistlaw29_ChirpLengths.j0 k a0 a1 t254 t255 bt258.1 bt258.2 bt260.1 true)))) else (abacistlaw29_ChirpLengths.j0 k a0 a1 t254 t255 bt258.1 bt258.2 bt260.1 (bt260.1 != 0)))))))))) else (some false))) = some r := h
  clear h
  replace H := Option.bind_eq_some_iff.mp H
  obtain ⟨t253, A30, H⟩ := H
  replace H : (if t253 = true then ((abacistref29_Goes.f a0).bind fun t254 => ((chirp_Factors.f k a0).bind fun t255 => ((chirp_Root.f k a0 a1).bind fun bt258 => ((chirp_Next.f k a0).bind fun bt260 => ((chirp_Goes.f a0).bind fun t262 => (if (t262 != t254) = true then (abacistlaw29_ChirpLengths.j0 k a0 a1 t254 t255 bt258.1 bt258.2 bt260.1 true) else (if (bt260.2 != (decide (a0 ≤ 65536))) = true then (abacistlaw29_ChirpLengths.j0 k a0 a1 t254 t255 bt258.1 bt258.2 bt260.1 true) else (if bt260.2 = true then (if bt260.1 < a0 then (abacistlaw29_ChirpLengths.j0 k a0 a1 t254 t255 bt258.1 bt258.2 bt260.1 true) else ((abacistref29_Goes.f bt260.1).bind fun t263 => (if t263 = true then (abacistlaw29_ChirpLengths.j0 k a0 a1 t254 t255 bt258.1 bt258.2 bt260.1 false) else (abacistlaw29_ChirpLengths.j0 k a0 a1 t254 t255 bt258.1 bt258.2 bt260.1 true)))) else (abacistlaw29_ChirpLengths.j0 k a0 a1 t254 t255 bt258.1 bt258.2 bt260.1 (bt260.1 != 0)))))))))) else (some false)) = some r := H
  have A3 := Aside0.mk A30
  clear A30
  by_cases c4 : t253 = true
  · subst c4
    have H1 : ((abacistref29_Goes.f a0).bind fun t254 => ((chirp_Factors.f k a0).bind fun t255 => ((chirp_Root.f k a0 a1).bind fun bt258 => ((chirp_Next.f k a0).bind fun bt260 => ((chirp_Goes.f a0).bind fun t262 => (if (t262 != t254) = true then (abacistlaw29_ChirpLengths.j0 k a0 a1 t254 t255 bt258.1 bt258.2 bt260.1 true) else (if (bt260.2 != (decide (a0 ≤ 65536))) = true then (abacistlaw29_ChirpLengths.j0 k a0 a1 t254 t255 bt258.1 bt258.2 bt260.1 true) else (if bt260.2 = true then (if bt260.1 < a0 then (abacistlaw29_ChirpLengths.j0 k a0 a1 t254 t255 bt258.1 bt258.2 bt260.1 true) else ((abacistref29_Goes.f bt260.1).bind fun t263 => (if t263 = true then (abacistlaw29_ChirpLengths.j0 k a0 a1 t254 t255 bt258.1 bt258.2 bt260.1 false) else (abacistlaw29_ChirpLengths.j0 k a0 a1 t254 t255 bt258.1 bt258.2 bt260.1 true)))) else (abacistlaw29_ChirpLengths.j0 k a0 a1 t254 t255 bt258.1 bt258.2 bt260.1 (bt260.1 != 0)))))))))) = some r := by rw [if_pos rfl] at H; exact H
    clear H
    have H := H1
    clear H1
    replace H := Option.bind_eq_some_iff.mp H
    obtain ⟨t254, A50, H⟩ := H
    replace H : ((chirp_Factors.f k a0).bind fun t255 => ((chirp_Root.f k a0 a1).bind fun bt258 => ((chirp_Next.f k a0).bind fun bt260 => ((chirp_Goes.f a0).bind fun t262 => (if (t262 != t254) = true then (abacistlaw29_ChirpLengths.j0 k a0 a1 t254 t255 bt258.1 bt258.2 bt260.1 true) else (if (bt260.2 != (decide (a0 ≤ 65536))) = true then (abacistlaw29_ChirpLengths.j0 k a0 a1 t254 t255 bt258.1 bt258.2 bt260.1 true) else (if bt260.2 = true then (if bt260.1 < a0 then (abacistlaw29_ChirpLengths.j0 k a0 a1 t254 t255 bt258.1 bt258.2 bt260.1 true) else ((abacistref29_Goes.f bt260.1).bind fun t263 => (if t263 = true then (abacistlaw29_ChirpLengths.j0 k a0 a1 t254 t255 bt258.1 bt258.2 bt260.1 false) else (abacistlaw29_ChirpLengths.j0 k a0 a1 t254 t255 bt258.1 bt258.2 bt260.1 true)))) else (abacistlaw29_ChirpLengths.j0 k a0 a1 t254 t255 bt258.1 bt258.2 bt260.1 (bt260.1 != 0))))))))) = some r := H
    have A5 := Aside0.mk A50
    clear A50
    replace H := Option.bind_eq_some_iff.mp H
    obtain ⟨t255, A60, H⟩ := H
    replace H : ((chirp_Root.f k a0 a1).bind fun bt258 => ((chirp_Next.f k a0).bind fun bt260 => ((chirp_Goes.f a0).bind fun t262 => (if (t262 != t254) = true then (abacistlaw29_ChirpLengths.j0 k a0 a1 t254 t255 bt258.1 bt258.2 bt260.1 true) else (if (bt260.2 != (decide (a0 ≤ 65536))) = true then (abacistlaw29_ChirpLengths.j0 k a0 a1 t254 t255 bt258.1 bt258.2 bt260.1 true) else (if bt260.2 = true then (if bt260.1 < a0 then (abacistlaw29_ChirpLengths.j0 k a0 a1 t254 t255 bt258.1 bt258.2 bt260.1 true) else ((abacistref29_Goes.f bt260.1).bind fun t263 => (if t263 = true then (abacistlaw29_ChirpLengths.j0 k a0 a1 t254 t255 bt258.1 bt258.2 bt260.1 false) else (abacistlaw29_ChirpLengths.j0 k a0 a1 t254 t255 bt258.1 bt258.2 bt260.1 true)))) else (abacistlaw29_ChirpLengths.j0 k a0 a1 t254 t255 bt258.1 bt258.2 bt260.1 (bt260.1 != 0)))))))) = some r := H
    have A6 := Aside0.mk A60
    clear A60
    replace H := Option.bind_eq_some_iff.mp H
    obtain ⟨⟨t258, t259⟩, A70, H⟩ := H
    replace H : ((chirp_Next.f k a0).bind fun bt260 => ((chirp_Goes.f a0).bind fun t262 => (if (t262 != t254) = true then (abacistlaw29_ChirpLengths.j0 k a0 a1 t254 t255 t258 t259 bt260.1 true) else (if (bt260.2 != (decide (a0 ≤ 65536))) = true then (abacistlaw29_ChirpLengths.j0 k a0 a1 t254 t255 t258 t259 bt260.1 true) else (if bt260.2 = true then (if bt260.1 < a0 then (abacistlaw29_ChirpLengths.j0 k a0 a1 t254 t255 t258 t259 bt260.1 true) else ((abacistref29_Goes.f bt260.1).bind fun t263 => (if t263 = true then (abacistlaw29_ChirpLengths.j0 k a0 a1 t254 t255 t258 t259 bt260.1 false) else (abacistlaw29_ChirpLengths.j0 k a0 a1 t254 t255 t258 t259 bt260.1 true)))) else (abacistlaw29_ChirpLengths.j0 k a0 a1 t254 t255 t258 t259 bt260.1 (bt260.1 != 0))))))) = some r := H
    have A7 := Aside0.mk A70
    clear A70
    replace H := Option.bind_eq_some_iff.mp H
    obtain ⟨⟨t260, t261⟩, A80, H⟩ := H
    replace H : ((chirp_Goes.f a0).bind fun t262 => (if (t262 != t254) = true then (abacistlaw29_ChirpLengths.j0 k a0 a1 t254 t255 t258 t259 t260 true) else (if (t261 != (decide (a0 ≤ 65536))) = true then (abacistlaw29_ChirpLengths.j0 k a0 a1 t254 t255 t258 t259 t260 true) else (if t261 = true then (if t260 < a0 then (abacistlaw29_ChirpLengths.j0 k a0 a1 t254 t255 t258 t259 t260 true) else ((abacistref29_Goes.f t260).bind fun t263 => (if t263 = true then (abacistlaw29_ChirpLengths.j0 k a0 a1 t254 t255 t258 t259 t260 false) else (abacistlaw29_ChirpLengths.j0 k a0 a1 t254 t255 t258 t259 t260 true)))) else (abacistlaw29_ChirpLengths.j0 k a0 a1 t254 t255 t258 t259 t260 (t260 != 0)))))) = some r := H
    have A8 := Aside0.mk A80
    clear A80
    have HC9 := Aside0.mk H
    clear H
    go_enter Tryd.func4, Tryd.ntmps4
    go_upto_region 7 with (first | (go_at_call 7; (with_reducible refine (abacistlaw29_awake.calls k  true _ ?sideG A3.out).mono ?_); (case sideG => first | exact hG | exact ⟨hG.out⟩ | exact ⟨hG.out.below (by repeat (first | (with_reducible first | exact HB.out | apply below_alloc | apply pw_below_drewN | apply below_drew1) | exact HB.out))⟩); rintro e w10 ⟨rfl, hb⟩; have n0_ := Aside0.mk (below_step (by repeat (first | (with_reducible first | exact HB.out | apply below_alloc | apply pw_below_drewN | apply below_drew1) | exact HB.out)) hb); clear HB; have HB := n0_; clear n0_; (try clear hb); (try clear hb2); (try clear hk); (try clear hi)) | (go_at_call 12; (with_reducible refine (abacistref29_Goes.calls a0 t254 _ A5.out).mono ?_); rintro e w' ⟨rfl, ⟨nd, rfl⟩⟩; (try first | exact ⟨rfl, _, World.drewN_drewN _ _ _⟩ | exact ⟨rfl, _, Eq.trans (World.drewN_drewN _ _ _) (congrArg (World.drewN _) (Nat.add_assoc _ _ _))⟩)) | (go_at_call 13; (with_reducible refine (chirp_Factors.calls k a0 t255 _ ?sideG A6.out).mono ?_); (case sideG => first | exact hG | exact ⟨hG.out⟩ | exact ⟨hG.out.below (by repeat (first | (with_reducible first | exact HB.out | apply below_alloc | apply pw_below_drewN | apply below_drew1) | exact HB.out))⟩); rintro e w11 ⟨v256, rfl, ho0, hb⟩; have n0_ := Aside0.mk (Kd.R_lower ho0 (below_size (by repeat (first | (with_reducible first | exact HB.out | apply below_alloc | apply pw_below_drewN | apply below_drew1) | exact HB.out)))); have n1_ := Aside0.mk (below_step (by repeat (first | (with_reducible first | exact HB.out | apply below_alloc | apply pw_below_drewN | apply below_drew1) | exact HB.out)) hb); clear HB; have HO257 := n0_; have HB := n1_; clear n0_ n1_; (try clear hb); (try clear hb2); (try clear hk); (try clear hi); (try clear ho0)) | (go_at_call 14; (with_reducible refine (chirp_Root.calls k a0 a1 t258 t259 _ A7.out).mono ?_); rintro e w12 ⟨rfl, hb⟩; have n0_ := Aside0.mk (Kd.R_below (by (with_reducible repeat (first | apply Kd.R_alloc | apply Kd.R_drewN | apply Kd.R_drew)); exact HO257.out) hb); have n1_ := Aside0.mk (below_step (by repeat (first | (with_reducible first | exact HB.out | apply below_alloc | apply pw_below_drewN | apply below_drew1) | exact HB.out)) hb); clear HO257; clear HB; have HO257 := n0_; have HB := n1_; clear n0_ n1_; (try clear hb); (try clear hb2); (try clear hk); (try clear hi)) | (go_at_call 15; (with_reducible refine (chirp_Next.calls k a0 t260 t261 _ A8.out).mono ?_); rintro e w13 ⟨rfl, hb⟩; have n0_ := Aside0.mk (Kd.R_below (by (with_reducible repeat (first | apply Kd.R_alloc | apply Kd.R_drewN | apply Kd.R_drew)); exact HO257.out) hb); have n1_ := Aside0.mk (below_step (by repeat (first | (with_reducible first | exact HB.out | apply below_alloc | apply pw_below_drewN | apply below_drew1) | exact HB.out)) hb); clear HO257; clear HB; have HO257 := n0_; have HB := n1_; clear n0_ n1_; (try clear hb); (try clear hb2); (try clear hk); (try clear hi)))
    repeat (go_quiet (first | (go_at_call 7; (with_reducible refine (abacistlaw29_awake.calls k  true _ ?sideG A3.out).mono ?_); (case sideG => first | exact hG | exact ⟨hG.out⟩ | exact ⟨hG.out.below (by repeat (first | (with_reducible first | exact HB.out | apply below_alloc | apply pw_below_drewN | apply below_drew1) | exact HB.out))⟩); rintro e w10 ⟨rfl, hb⟩; have n0_ := Aside0.mk (below_step (by repeat (first | (with_reducible first | exact HB.out | apply below_alloc | apply pw_below_drewN | apply below_drew1) | exact HB.out)) hb); clear HB; have HB := n0_; clear n0_; (try clear hb); (try clear hb2); (try clear hk); (try clear hi)) | (go_at_call 12; (with_reducible refine (abacistref29_Goes.calls a0 t254 _ A5.out).mono ?_); rintro e w' ⟨rfl, ⟨nd, rfl⟩⟩; (try first | exact ⟨rfl, _, World.drewN_drewN _ _ _⟩ | exact ⟨rfl, _, Eq.trans (World.drewN_drewN _ _ _) (congrArg (World.drewN _) (Nat.add_assoc _ _ _))⟩)) | (go_at_call 13; (with_reducible refine (chirp_Factors.calls k a0 t255 _ ?sideG A6.out).mono ?_); (case sideG => first | exact hG | exact ⟨hG.out⟩ | exact ⟨hG.out.below (by repeat (first | (with_reducible first | exact HB.out | apply below_alloc | apply pw_below_drewN | apply below_drew1) | exact HB.out))⟩); rintro e w11 ⟨v256, rfl, ho0, hb⟩; have n0_ := Aside0.mk (Kd.R_lower ho0 (below_size (by repeat (first | (with_reducible first | exact HB.out | apply below_alloc | apply pw_below_drewN | apply below_drew1) | exact HB.out)))); have n1_ := Aside0.mk (below_step (by repeat (first | (with_reducible first | exact HB.out | apply below_alloc | apply pw_below_drewN | apply below_drew1) | exact HB.out)) hb); clear HB; have HO257 := n0_; have HB := n1_; clear n0_ n1_; (try clear hb); (try clear hb2); (try clear hk); (try clear hi); (try clear ho0)) | (go_at_call 14; (with_reducible refine (chirp_Root.calls k a0 a1 t258 t259 _ A7.out).mono ?_); rintro e w12 ⟨rfl, hb⟩; have n0_ := Aside0.mk (Kd.R_below (by (with_reducible repeat (first | apply Kd.R_alloc | apply Kd.R_drewN | apply Kd.R_drew)); exact HO257.out) hb); have n1_ := Aside0.mk (below_step (by repeat (first | (with_reducible first | exact HB.out | apply below_alloc | apply pw_below_drewN | apply below_drew1) | exact HB.out)) hb); clear HO257; clear HB; have HO257 := n0_; have HB := n1_; clear n0_ n1_; (try clear hb); (try clear hb2); (try clear hk); (try clear hi)) | (go_at_call 15; (with_reducible refine (chirp_Next.calls k a0 t260 t261 _ A8.out).mono ?_); rintro e w13 ⟨rfl, hb⟩; have n0_ := Aside0.mk (Kd.R_below (by (with_reducible repeat (first | apply Kd.R_alloc | apply Kd.R_drewN | apply Kd.R_drew)); exact HO257.out) hb); have n1_ := Aside0.mk (below_step (by repeat (first | (with_reducible first | exact HB.out | apply below_alloc | apply pw_below_drewN | apply below_drew1) | exact HB.out)) hb); clear HO257; clear HB; have HO257 := n0_; have HB := n1_; clear n0_ n1_; (try clear hb); (try clear hb2); (try clear hk); (try clear hi))); go_upto_region 7 with (first | (go_at_call 7; (with_reducible refine (abacistlaw29_awake.calls k  true _ ?sideG A3.out).mono ?_); (case sideG => first | exact hG | exact ⟨hG.out⟩ | exact ⟨hG.out.below (by repeat (first | (with_reducible first | exact HB.out | apply below_alloc | apply pw_below_drewN | apply below_drew1) | exact HB.out))⟩); rintro e w10 ⟨rfl, hb⟩; have n0_ := Aside0.mk (below_step (by repeat (first | (with_reducible first | exact HB.out | apply below_alloc | apply pw_below_drewN | apply below_drew1) | exact HB.out)) hb); clear HB; have HB := n0_; clear n0_; (try clear hb); (try clear hb2); (try clear hk); (try clear hi)) | (go_at_call 12; (with_reducible refine (abacistref29_Goes.calls a0 t254 _ A5.out).mono ?_); rintro e w' ⟨rfl, ⟨nd, rfl⟩⟩; (try first | exact ⟨rfl, _, World.drewN_drewN _ _ _⟩ | exact ⟨rfl, _, Eq.trans (World.drewN_drewN _ _ _) (congrArg (World.drewN _) (Nat.add_assoc _ _ _))⟩)) | (go_at_call 13; (with_reducible refine (chirp_Factors.calls k a0 t255 _ ?sideG A6.out).mono ?_); (case sideG => first | exact hG | exact ⟨hG.out⟩ | exact ⟨hG.out.below (by repeat (first | (with_reducible first | exact HB.out | apply below_alloc | apply pw_below_drewN | apply below_drew1) | exact HB.out))⟩); rintro e w11 ⟨v256, rfl, ho0, hb⟩; have n0_ := Aside0.mk (Kd.R_lower ho0 (below_size (by repeat (first | (with_reducible first | exact HB.out | apply below_alloc | apply pw_below_drewN | apply below_drew1) | exact HB.out)))); have n1_ := Aside0.mk (below_step (by repeat (first | (with_reducible first | exact HB.out | apply below_alloc | apply pw_below_drewN | apply below_drew1) | exact HB.out)) hb); clear HB; have HO257 := n0_; have HB := n1_; clear n0_ n1_; (try clear hb); (try clear hb2); (try clear hk); (try clear hi); (try clear ho0)) | (go_at_call 14; (with_reducible refine (chirp_Root.calls k a0 a1 t258 t259 _ A7.out).mono ?_); rintro e w12 ⟨rfl, hb⟩; have n0_ := Aside0.mk (Kd.R_below (by (with_reducible repeat (first | apply Kd.R_alloc | apply Kd.R_drewN | apply Kd.R_drew)); exact HO257.out) hb); have n1_ := Aside0.mk (below_step (by repeat (first | (with_reducible first | exact HB.out | apply below_alloc | apply pw_below_drewN | apply below_drew1) | exact HB.out)) hb); clear HO257; clear HB; have HO257 := n0_; have HB := n1_; clear n0_ n1_; (try clear hb); (try clear hb2); (try clear hk); (try clear hi)) | (go_at_call 15; (with_reducible refine (chirp_Next.calls k a0 t260 t261 _ A8.out).mono ?_); rintro e w13 ⟨rfl, hb⟩; have n0_ := Aside0.mk (Kd.R_below (by (with_reducible repeat (first | apply Kd.R_alloc | apply Kd.R_drewN | apply Kd.R_drew)); exact HO257.out) hb); have n1_ := Aside0.mk (below_step (by repeat (first | (with_reducible first | exact HB.out | apply below_alloc | apply pw_below_drewN | apply below_drew1) | exact HB.out)) hb); clear HO257; clear HB; have HO257 := n0_; have HB := n1_; clear n0_ n1_; (try clear hb); (try clear hb2); (try clear hk); (try clear hi))))
    (try simp only [Act.put, List.setIfInBounds_toArray, List.set_cons_zero, List.set_cons_succ])
    go_cut [61] (fun v61 wc => ∃ (kq : Nat) (x61_8 : Bool), v61 = .bool x61_8 ∧ Aside0 (abacistlaw29_ChirpLengths.j0 kq a0 a1 t254 t255 t258 t259 t260 x61_8 = some r) ∧ Aside0 (kq ≤ k) ∧ Aside0 (Kd.R (Kd.int .i64) 3 wc w.heap.size (fun _ => True) v256 t255) ∧ Aside0 (Below w.heap.size w wc))
    case first =>
      have H := HC9.out
      clear HC9
      replace H := Option.bind_eq_some_iff.mp H
      obtain ⟨t262, A140, H⟩ := H
      replace H : (if (t262 != t254) = true then (abacistlaw29_ChirpLengths.j0 k a0 a1 t254 t255 t258 t259 t260 true) else (if (t261 != (decide (a0 ≤ 65536))) = true then (abacistlaw29_ChirpLengths.j0 k a0 a1 t254 t255 t258 t259 t260 true) else (if t261 = true then (if t260 < a0 then (abacistlaw29_ChirpLengths.j0 k a0 a1 t254 t255 t258 t259 t260 true) else ((abacistref29_Goes.f t260).bind fun t263 => (if t263 = true then (abacistlaw29_ChirpLengths.j0 k a0 a1 t254 t255 t258 t259 t260 false) else (abacistlaw29_ChirpLengths.j0 k a0 a1 t254 t255 t258 t259 t260 true)))) else (abacistlaw29_ChirpLengths.j0 k a0 a1 t254 t255 t258 t259 t260 (t260 != 0))))) = some r := H
      have A14 := Aside0.mk A140
      clear A140
      by_cases c15 : (t262 != t254) = true
      · rw [if_pos c15] at H
        have c15b0 : (t262 != t254) = true := c15
        (try (have c15b1 : decide (t262 = t254) = false := by simpa using c15))
        (try (have c15b2 : (t262 == t254) = false := by simpa using c15))
        (try (have c15b3 : ¬ (t262 = t254) := by simpa using c15))
        clear c15
        (first | rw [c15b0] | (simp only [i64_w, i32_w]; rw [c15b0]) | skip)
        have H' := Aside0.mk H
        clear H
        go_wp2_with (first | (go_at_call 16; (with_reducible refine (chirp_Goes.calls a0 t262 _ A14.out).mono ?_); rintro e w' ⟨rfl, ⟨nd, rfl⟩⟩; (try first | exact ⟨rfl, _, World.drewN_drewN _ _ _⟩ | exact ⟨rfl, _, Eq.trans (World.drewN_drewN _ _ _) (congrArg (World.drewN _) (Nat.add_assoc _ _ _))⟩)))
        repeat (go_quiet (first | (go_at_call 16; (with_reducible refine (chirp_Goes.calls a0 t262 _ A14.out).mono ?_); rintro e w' ⟨rfl, ⟨nd, rfl⟩⟩; (try first | exact ⟨rfl, _, World.drewN_drewN _ _ _⟩ | exact ⟨rfl, _, Eq.trans (World.drewN_drewN _ _ _) (congrArg (World.drewN _) (Nat.add_assoc _ _ _))⟩))); try go_wp2_with (first | (go_at_call 16; (with_reducible refine (chirp_Goes.calls a0 t262 _ A14.out).mono ?_); rintro e w' ⟨rfl, ⟨nd, rfl⟩⟩; (try first | exact ⟨rfl, _, World.drewN_drewN _ _ _⟩ | exact ⟨rfl, _, Eq.trans (World.drewN_drewN _ _ _) (congrArg (World.drewN _) (Nat.add_assoc _ _ _))⟩))))
        go_meet
        case rel => exact ⟨_, (true), (by first | rfl | (simp; done) | (simp [*]; done)), H', ⟨by first | omega | exact Nat.le_refl _⟩, ⟨by (with_reducible repeat (first | apply Kd.R_alloc | apply Kd.R_drewN | apply Kd.R_drew)); exact HO257.out⟩, ⟨by repeat (first | (with_reducible first | exact HB.out | apply below_alloc | apply pw_below_drewN | apply below_drew1) | exact HB.out)⟩⟩
      · rw [if_neg c15] at H
        have c15b0 : (t262 != t254) = false := by simpa using c15
        (try (have c15b1 : decide (t262 = t254) = true := by simpa using c15))
        (try (have c15b2 : (t262 == t254) = true := by simpa using c15))
        clear c15
        (first | rw [c15b0] | (simp only [i64_w, i32_w]; rw [c15b0]) | skip)
        by_cases c16 : (t261 != (decide (a0 ≤ 65536))) = true
        · rw [if_pos c16] at H
          have c16b0 : (t261 != (decide (a0 ≤ 65536))) = true := c16
          (try (have c16b1 : decide (t261 = (decide (a0 ≤ 65536))) = false := by simpa using c16))
          (try (have c16b2 : (t261 == (decide (a0 ≤ 65536))) = false := by simpa using c16))
          (try (have c16b3 : ¬ (t261 = (decide (a0 ≤ 65536))) := by simpa using c16))
          clear c16
          have H' := Aside0.mk H
          clear H
          go_wp2_with (first | (go_at_call 16; (with_reducible refine (chirp_Goes.calls a0 t262 _ A14.out).mono ?_); rintro e w' ⟨rfl, ⟨nd, rfl⟩⟩; (try first | exact ⟨rfl, _, World.drewN_drewN _ _ _⟩ | exact ⟨rfl, _, Eq.trans (World.drewN_drewN _ _ _) (congrArg (World.drewN _) (Nat.add_assoc _ _ _))⟩)))
          repeat (go_quiet (first | (go_at_call 16; (with_reducible refine (chirp_Goes.calls a0 t262 _ A14.out).mono ?_); rintro e w' ⟨rfl, ⟨nd, rfl⟩⟩; (try first | exact ⟨rfl, _, World.drewN_drewN _ _ _⟩ | exact ⟨rfl, _, Eq.trans (World.drewN_drewN _ _ _) (congrArg (World.drewN _) (Nat.add_assoc _ _ _))⟩))); try go_wp2_with (first | (go_at_call 16; (with_reducible refine (chirp_Goes.calls a0 t262 _ A14.out).mono ?_); rintro e w' ⟨rfl, ⟨nd, rfl⟩⟩; (try first | exact ⟨rfl, _, World.drewN_drewN _ _ _⟩ | exact ⟨rfl, _, Eq.trans (World.drewN_drewN _ _ _) (congrArg (World.drewN _) (Nat.add_assoc _ _ _))⟩))))
          go_meet
          case rel => exact ⟨_, (true), (by first | rfl | (simp; done) | (simp [*]; done)), H', ⟨by first | omega | exact Nat.le_refl _⟩, ⟨by (with_reducible repeat (first | apply Kd.R_alloc | apply Kd.R_drewN | apply Kd.R_drew)); exact HO257.out⟩, ⟨by repeat (first | (with_reducible first | exact HB.out | apply below_alloc | apply pw_below_drewN | apply below_drew1) | exact HB.out)⟩⟩
        · rw [if_neg c16] at H
          have c16b0 : (t261 != (decide (a0 ≤ 65536))) = false := by simpa using c16
          (try (have c16b1 : decide (t261 = (decide (a0 ≤ 65536))) = true := by simpa using c16))
          (try (have c16b2 : (t261 == (decide (a0 ≤ 65536))) = true := by simpa using c16))
          clear c16
          by_cases c17 : t261 = true
          · subst c17
            have H1 : (if t260 < a0 then (abacistlaw29_ChirpLengths.j0 k a0 a1 t254 t255 t258 t259 t260 true) else ((abacistref29_Goes.f t260).bind fun t263 => (if t263 = true then (abacistlaw29_ChirpLengths.j0 k a0 a1 t254 t255 t258 t259 t260 false) else (abacistlaw29_ChirpLengths.j0 k a0 a1 t254 t255 t258 t259 t260 true)))) = some r := by rw [if_pos rfl] at H; exact H
            clear H
            have H := H1
            clear H1
            by_cases c18 : t260 < a0
            · rw [if_pos c18] at H
              have c18b0 : decide (t260 < a0) = true := decide_eq_true c18
              clear c18
              have H' := Aside0.mk H
              clear H
              go_wp2_with (first | (go_at_call 16; (with_reducible refine (chirp_Goes.calls a0 t262 _ A14.out).mono ?_); rintro e w' ⟨rfl, ⟨nd, rfl⟩⟩; (try first | exact ⟨rfl, _, World.drewN_drewN _ _ _⟩ | exact ⟨rfl, _, Eq.trans (World.drewN_drewN _ _ _) (congrArg (World.drewN _) (Nat.add_assoc _ _ _))⟩)))
              repeat (go_quiet (first | (go_at_call 16; (with_reducible refine (chirp_Goes.calls a0 t262 _ A14.out).mono ?_); rintro e w' ⟨rfl, ⟨nd, rfl⟩⟩; (try first | exact ⟨rfl, _, World.drewN_drewN _ _ _⟩ | exact ⟨rfl, _, Eq.trans (World.drewN_drewN _ _ _) (congrArg (World.drewN _) (Nat.add_assoc _ _ _))⟩))); try go_wp2_with (first | (go_at_call 16; (with_reducible refine (chirp_Goes.calls a0 t262 _ A14.out).mono ?_); rintro e w' ⟨rfl, ⟨nd, rfl⟩⟩; (try first | exact ⟨rfl, _, World.drewN_drewN _ _ _⟩ | exact ⟨rfl, _, Eq.trans (World.drewN_drewN _ _ _) (congrArg (World.drewN _) (Nat.add_assoc _ _ _))⟩))))
              go_meet
              case rel => exact ⟨_, (true), (by first | rfl | (simp; done) | (simp [*]; done)), H', ⟨by first | omega | exact Nat.le_refl _⟩, ⟨by (with_reducible repeat (first | apply Kd.R_alloc | apply Kd.R_drewN | apply Kd.R_drew)); exact HO257.out⟩, ⟨by repeat (first | (with_reducible first | exact HB.out | apply below_alloc | apply pw_below_drewN | apply below_drew1) | exact HB.out)⟩⟩
            · rw [if_neg c18] at H
              have c18b0 : decide (t260 < a0) = false := decide_eq_false c18
              clear c18
              replace H := Option.bind_eq_some_iff.mp H
              obtain ⟨t263, A190, H⟩ := H
              replace H : (if t263 = true then (abacistlaw29_ChirpLengths.j0 k a0 a1 t254 t255 t258 t259 t260 false) else (abacistlaw29_ChirpLengths.j0 k a0 a1 t254 t255 t258 t259 t260 true)) = some r := H
              have A19 := Aside0.mk A190
              clear A190
              by_cases c20 : t263 = true
              · subst c20
                have H1 : (abacistlaw29_ChirpLengths.j0 k a0 a1 t254 t255 t258 t259 t260 false) = some r := by rw [if_pos rfl] at H; exact H
                clear H
                have H := H1
                clear H1
                have H' := Aside0.mk H
                clear H
                go_wp2_with (first | (go_at_call 16; (with_reducible refine (chirp_Goes.calls a0 t262 _ A14.out).mono ?_); rintro e w' ⟨rfl, ⟨nd, rfl⟩⟩; (try first | exact ⟨rfl, _, World.drewN_drewN _ _ _⟩ | exact ⟨rfl, _, Eq.trans (World.drewN_drewN _ _ _) (congrArg (World.drewN _) (Nat.add_assoc _ _ _))⟩)) | (go_at_call 12; (with_reducible refine (abacistref29_Goes.calls t260 true _ A19.out).mono ?_); rintro e w' ⟨rfl, ⟨nd, rfl⟩⟩; (try first | exact ⟨rfl, _, World.drewN_drewN _ _ _⟩ | exact ⟨rfl, _, Eq.trans (World.drewN_drewN _ _ _) (congrArg (World.drewN _) (Nat.add_assoc _ _ _))⟩)))
                repeat (go_quiet (first | (go_at_call 16; (with_reducible refine (chirp_Goes.calls a0 t262 _ A14.out).mono ?_); rintro e w' ⟨rfl, ⟨nd, rfl⟩⟩; (try first | exact ⟨rfl, _, World.drewN_drewN _ _ _⟩ | exact ⟨rfl, _, Eq.trans (World.drewN_drewN _ _ _) (congrArg (World.drewN _) (Nat.add_assoc _ _ _))⟩)) | (go_at_call 12; (with_reducible refine (abacistref29_Goes.calls t260 true _ A19.out).mono ?_); rintro e w' ⟨rfl, ⟨nd, rfl⟩⟩; (try first | exact ⟨rfl, _, World.drewN_drewN _ _ _⟩ | exact ⟨rfl, _, Eq.trans (World.drewN_drewN _ _ _) (congrArg (World.drewN _) (Nat.add_assoc _ _ _))⟩))); try go_wp2_with (first | (go_at_call 16; (with_reducible refine (chirp_Goes.calls a0 t262 _ A14.out).mono ?_); rintro e w' ⟨rfl, ⟨nd, rfl⟩⟩; (try first | exact ⟨rfl, _, World.drewN_drewN _ _ _⟩ | exact ⟨rfl, _, Eq.trans (World.drewN_drewN _ _ _) (congrArg (World.drewN _) (Nat.add_assoc _ _ _))⟩)) | (go_at_call 12; (with_reducible refine (abacistref29_Goes.calls t260 true _ A19.out).mono ?_); rintro e w' ⟨rfl, ⟨nd, rfl⟩⟩; (try first | exact ⟨rfl, _, World.drewN_drewN _ _ _⟩ | exact ⟨rfl, _, Eq.trans (World.drewN_drewN _ _ _) (congrArg (World.drewN _) (Nat.add_assoc _ _ _))⟩))))
                go_meet
                case rel => exact ⟨_, (false), (by first | rfl | (simp; done) | (simp [*]; done)), H', ⟨by first | omega | exact Nat.le_refl _⟩, ⟨by (with_reducible repeat (first | apply Kd.R_alloc | apply Kd.R_drewN | apply Kd.R_drew)); exact HO257.out⟩, ⟨by repeat (first | (with_reducible first | exact HB.out | apply below_alloc | apply pw_below_drewN | apply below_drew1) | exact HB.out)⟩⟩
              · replace c20 := Bool.eq_false_iff.mpr c20
                subst c20
                have H1 : (abacistlaw29_ChirpLengths.j0 k a0 a1 t254 t255 t258 t259 t260 true) = some r := by rw [if_neg (show ¬ (false = true) by decide)] at H; exact H
                clear H
                have H := H1
                clear H1
                have H' := Aside0.mk H
                clear H
                go_wp2_with (first | (go_at_call 16; (with_reducible refine (chirp_Goes.calls a0 t262 _ A14.out).mono ?_); rintro e w' ⟨rfl, ⟨nd, rfl⟩⟩; (try first | exact ⟨rfl, _, World.drewN_drewN _ _ _⟩ | exact ⟨rfl, _, Eq.trans (World.drewN_drewN _ _ _) (congrArg (World.drewN _) (Nat.add_assoc _ _ _))⟩)) | (go_at_call 12; (with_reducible refine (abacistref29_Goes.calls t260 false _ A19.out).mono ?_); rintro e w' ⟨rfl, ⟨nd, rfl⟩⟩; (try first | exact ⟨rfl, _, World.drewN_drewN _ _ _⟩ | exact ⟨rfl, _, Eq.trans (World.drewN_drewN _ _ _) (congrArg (World.drewN _) (Nat.add_assoc _ _ _))⟩)))
                repeat (go_quiet (first | (go_at_call 16; (with_reducible refine (chirp_Goes.calls a0 t262 _ A14.out).mono ?_); rintro e w' ⟨rfl, ⟨nd, rfl⟩⟩; (try first | exact ⟨rfl, _, World.drewN_drewN _ _ _⟩ | exact ⟨rfl, _, Eq.trans (World.drewN_drewN _ _ _) (congrArg (World.drewN _) (Nat.add_assoc _ _ _))⟩)) | (go_at_call 12; (with_reducible refine (abacistref29_Goes.calls t260 false _ A19.out).mono ?_); rintro e w' ⟨rfl, ⟨nd, rfl⟩⟩; (try first | exact ⟨rfl, _, World.drewN_drewN _ _ _⟩ | exact ⟨rfl, _, Eq.trans (World.drewN_drewN _ _ _) (congrArg (World.drewN _) (Nat.add_assoc _ _ _))⟩))); try go_wp2_with (first | (go_at_call 16; (with_reducible refine (chirp_Goes.calls a0 t262 _ A14.out).mono ?_); rintro e w' ⟨rfl, ⟨nd, rfl⟩⟩; (try first | exact ⟨rfl, _, World.drewN_drewN _ _ _⟩ | exact ⟨rfl, _, Eq.trans (World.drewN_drewN _ _ _) (congrArg (World.drewN _) (Nat.add_assoc _ _ _))⟩)) | (go_at_call 12; (with_reducible refine (abacistref29_Goes.calls t260 false _ A19.out).mono ?_); rintro e w' ⟨rfl, ⟨nd, rfl⟩⟩; (try first | exact ⟨rfl, _, World.drewN_drewN _ _ _⟩ | exact ⟨rfl, _, Eq.trans (World.drewN_drewN _ _ _) (congrArg (World.drewN _) (Nat.add_assoc _ _ _))⟩))))
                go_meet
                case rel => exact ⟨_, (true), (by first | rfl | (simp; done) | (simp [*]; done)), H', ⟨by first | omega | exact Nat.le_refl _⟩, ⟨by (with_reducible repeat (first | apply Kd.R_alloc | apply Kd.R_drewN | apply Kd.R_drew)); exact HO257.out⟩, ⟨by repeat (first | (with_reducible first | exact HB.out | apply below_alloc | apply pw_below_drewN | apply below_drew1) | exact HB.out)⟩⟩
          · replace c17 := Bool.eq_false_iff.mpr c17
            subst c17
            have H1 : (abacistlaw29_ChirpLengths.j0 k a0 a1 t254 t255 t258 t259 t260 (t260 != 0)) = some r := by rw [if_neg (show ¬ (false = true) by decide)] at H; exact H
            clear H
            have H := H1
            clear H1
            have H' := Aside0.mk H
            clear H
            go_wp2_with (first | (go_at_call 16; (with_reducible refine (chirp_Goes.calls a0 t262 _ A14.out).mono ?_); rintro e w' ⟨rfl, ⟨nd, rfl⟩⟩; (try first | exact ⟨rfl, _, World.drewN_drewN _ _ _⟩ | exact ⟨rfl, _, Eq.trans (World.drewN_drewN _ _ _) (congrArg (World.drewN _) (Nat.add_assoc _ _ _))⟩)))
            repeat (go_quiet (first | (go_at_call 16; (with_reducible refine (chirp_Goes.calls a0 t262 _ A14.out).mono ?_); rintro e w' ⟨rfl, ⟨nd, rfl⟩⟩; (try first | exact ⟨rfl, _, World.drewN_drewN _ _ _⟩ | exact ⟨rfl, _, Eq.trans (World.drewN_drewN _ _ _) (congrArg (World.drewN _) (Nat.add_assoc _ _ _))⟩))); try go_wp2_with (first | (go_at_call 16; (with_reducible refine (chirp_Goes.calls a0 t262 _ A14.out).mono ?_); rintro e w' ⟨rfl, ⟨nd, rfl⟩⟩; (try first | exact ⟨rfl, _, World.drewN_drewN _ _ _⟩ | exact ⟨rfl, _, Eq.trans (World.drewN_drewN _ _ _) (congrArg (World.drewN _) (Nat.add_assoc _ _ _))⟩))))
            go_meet
            case rel => exact ⟨_, ((t260 != 0)), (by first | rfl | (simp; done) | (simp [*]; done)), H', ⟨by first | omega | exact Nat.le_refl _⟩, ⟨by (with_reducible repeat (first | apply Kd.R_alloc | apply Kd.R_drewN | apply Kd.R_drew)); exact HO257.out⟩, ⟨by repeat (first | (with_reducible first | exact HB.out | apply below_alloc | apply pw_below_drewN | apply below_drew1) | exact HB.out)⟩⟩
    case rest =>
      clear HC9
      try clear c1
      try clear c2
      try clear p2
      try clear c4
      try clear c15
      try clear c15b0
      try clear c15b1
      try clear c15b2
      try clear c16
      try clear c16b0
      try clear c16b1
      try clear c16b2
      try clear c17
      try clear c18
      try clear c18b0
      try clear c20
      obtain ⟨kq, x61_8, rfl, HA, HJ8, HO_6, HB⟩ := hcut
      cases kq with
      | zero => exact absurd HA.out (by simp [abacistlaw29_ChirpLengths.j0])
      | succ kj8 =>
        have H := HA.out
        clear HA
        simp only [abacistlaw29_ChirpLengths.j0] at H
        by_cases c21 : x61_8 = true
        · subst c21
          have H1 : (some false) = some r := by rw [if_pos rfl] at H; exact H
          clear H
          have H := H1
          clear H1
          obtain rfl := Option.some.inj H
          exact absurd hr_.out (by decide)
        · replace c21 := Bool.eq_false_iff.mpr c21
          subst c21
          have H1 : (abacistlaw29_ChirpLengths.l0 kj8 a0 a1 t254 t255 t258 t259 t260 (mx a0 1)) = some r := by rw [if_neg (show ¬ (false = true) by decide)] at H; exact H
          clear H
          have H := H1
          clear H1
          obtain ⟨ji22, hji22⟩ : ∃ j_ : Int, (mx a0 1) = j_ := ⟨_, rfl⟩
          replace H : (abacistlaw29_ChirpLengths.l0 kj8 a0 a1 t254 t255 t258 t259 t260 ji22) = some r := by first | (rw [hji22] at H; exact H) | (simp only [hji22] at H ⊢; exact H)
          (try (have hji22l : 1 ≤ ji22 := by (rw [← hji22]; unfold mx; (repeat' split) <;> omega)))
          (try (have hji22m : 0 ≤ ji22 := by omega))
          have hji22_ : (if a0 < 1 then 1 else a0) = ji22 := hji22
          have H' := Aside0.mk H
          clear H
          go_wp2
          repeat (go_quiet (fail); try go_wp2)
          go_loopg [11] kj8 (fun kq v11 w' => ∃ (x11_2 : Int), v11 = .int .i64 x11_2 ∧ Aside0 (abacistlaw29_ChirpLengths.l0 kq a0 a1 t254 t255 t258 t259 t260 x11_2 = some r) ∧ Aside0 (kq ≤ kj8) ∧ Aside0 (Kd.R (Kd.int .i64) 3 w' w.heap.size (fun _ => True) v256 t255) ∧ Aside0 (Below w.heap.size w w'))
          case atStart => exact ⟨(ji22), (by first | rfl | (simp; done) | (simp only [← hji22] <;> (first | rfl | simp)) | (simp [*]; done)), H', ⟨Nat.le_refl _⟩, ⟨by (with_reducible repeat (first | apply Kd.R_alloc | apply Kd.R_drewN | apply Kd.R_drew)); exact HO_6.out⟩, ⟨by repeat (first | (with_reducible first | exact HB.out | apply below_alloc | apply pw_below_drewN | apply below_drew1) | exact HB.out)⟩⟩
          case round =>
            clear H'
            try clear c1
            try clear c2
            try clear p2
            try clear c4
            try clear c15
            try clear c15b0
            try clear c15b1
            try clear c15b2
            try clear c16
            try clear c16b0
            try clear c16b1
            try clear c16b2
            try clear c17
            try clear c18
            try clear c18b0
            try clear c20
            try clear c21
            try clear p2
            obtain ⟨x11_2, rfl, HA, HK2, HO_6, HB⟩ := hrel
            cases gk with
            | zero => exact absurd HA.out (by simp [abacistlaw29_ChirpLengths.l0])
            | succ k2 =>
              have H := HA.out
              clear HA
              simp only [abacistlaw29_ChirpLengths.l0] at H
              by_cases c23 : x11_2 < t260
              · rw [if_pos c23] at H
                have c23b0 : decide (x11_2 < t260) = true := decide_eq_true c23
                clear c23
                replace H := Option.bind_eq_some_iff.mp H
                obtain ⟨t264, A240, H⟩ := H
                replace H : (if t264 = true then (some false) else (abacistlaw29_ChirpLengths.l0 k2 a0 a1 t254 t255 t258 t259 t260 (wrap64 (x11_2 + 1)))) = some r := H
                have A24 := Aside0.mk A240
                clear A240
                by_cases c25 : t264 = true
                · subst c25
                  have H1 : (some false) = some r := by rw [if_pos rfl] at H; exact H
                  clear H
                  have H := H1
                  clear H1
                  obtain rfl := Option.some.inj H
                  exact absurd hr_.out (by decide)
                · replace c25 := Bool.eq_false_iff.mpr c25
                  subst c25
                  have H1 : (abacistlaw29_ChirpLengths.l0 k2 a0 a1 t254 t255 t258 t259 t260 (wrap64 (x11_2 + 1))) = some r := by rw [if_neg (show ¬ (false = true) by decide)] at H; exact H
                  clear H
                  have H := H1
                  clear H1
                  have H' := Aside0.mk H
                  clear H
                  go_wp2_with (first | (go_at_call 12; (with_reducible refine (abacistref29_Goes.calls x11_2 false _ A24.out).mono ?_); rintro e w' ⟨rfl, ⟨nd, rfl⟩⟩; (try first | exact ⟨rfl, _, World.drewN_drewN _ _ _⟩ | exact ⟨rfl, _, Eq.trans (World.drewN_drewN _ _ _) (congrArg (World.drewN _) (Nat.add_assoc _ _ _))⟩)))
                  repeat (go_quiet (first | (go_at_call 12; (with_reducible refine (abacistref29_Goes.calls x11_2 false _ A24.out).mono ?_); rintro e w' ⟨rfl, ⟨nd, rfl⟩⟩; (try first | exact ⟨rfl, _, World.drewN_drewN _ _ _⟩ | exact ⟨rfl, _, Eq.trans (World.drewN_drewN _ _ _) (congrArg (World.drewN _) (Nat.add_assoc _ _ _))⟩))); try go_wp2_with (first | (go_at_call 12; (with_reducible refine (abacistref29_Goes.calls x11_2 false _ A24.out).mono ?_); rintro e w' ⟨rfl, ⟨nd, rfl⟩⟩; (try first | exact ⟨rfl, _, World.drewN_drewN _ _ _⟩ | exact ⟨rfl, _, Eq.trans (World.drewN_drewN _ _ _) (congrArg (World.drewN _) (Nat.add_assoc _ _ _))⟩))))
                  (first | go_roundg k2 | (simp only [add_plain] at *; go_roundg k2))
                  case measure => have := HJ8.out; have := HK2.out; omega
                  case rel => exact ⟨(wrap64 (x11_2 + 1)), (by first | rfl | (simp; done) | (simp [*]; done)), H', ⟨by have := HJ8.out; have := HK2.out; omega⟩, ⟨by (with_reducible repeat (first | apply Kd.R_alloc | apply Kd.R_drewN | apply Kd.R_drew)); exact HO_6.out⟩, ⟨by repeat (first | (with_reducible first | exact HB.out | apply below_alloc | apply pw_below_drewN | apply below_drew1) | exact HB.out)⟩⟩
              · rw [if_neg c23] at H
                have c23b0 : decide (x11_2 < t260) = false := decide_eq_false c23
                clear c23
                by_cases c26 : t254 = true
                · subst c26
                  have H1 : (abacistlaw29_ChirpLengths.l1 k2 a0 a1 t255 t258 t259 1 0) = some r := by rw [if_pos rfl] at H; exact H
                  clear H
                  have H := H1
                  clear H1
                  have H' := Aside0.mk H
                  clear H
                  go_wp2
                  repeat (go_quiet (fail); try go_wp2)
                  go_loopg [12, 13] k2 (fun kq v12 v13 w' => ∃ (x12_3 : Int) (x13_3 : Int), v12 = .int .i64 x12_3 ∧ v13 = .int .i64 x13_3 ∧ Aside0 (abacistlaw29_ChirpLengths.l1 kq a0 a1 t255 t258 t259 x12_3 x13_3 = some r) ∧ Aside0 (kq ≤ k2) ∧ Aside0 (Kd.R (Kd.int .i64) 3 w' w.heap.size (fun _ => True) v256 t255) ∧ Aside0 (Below w.heap.size w w'))
                  case atStart => exact ⟨(1), (0), (by first | rfl | (simp; done) | (simp [*]; done)), (by first | rfl | (simp; done) | (simp [*]; done)), H', ⟨Nat.le_refl _⟩, ⟨by (with_reducible repeat (first | apply Kd.R_alloc | apply Kd.R_drewN | apply Kd.R_drew)); exact HO_6.out⟩, ⟨by repeat (first | (with_reducible first | exact HB.out | apply below_alloc | apply pw_below_drewN | apply below_drew1) | exact HB.out)⟩⟩
                  case round =>
                    clear H'
                    try clear c1
                    try clear c2
                    try clear p2
                    try clear c4
                    try clear p6
                    try clear c15
                    try clear c15b0
                    try clear c15b1
                    try clear c15b2
                    try clear c16
                    try clear c16b0
                    try clear c16b1
                    try clear c16b2
                    try clear c17
                    try clear c18
                    try clear c18b0
                    try clear c20
                    try clear c21
                    try clear c23
                    try clear c23b0
                    try clear c25
                    try clear c26
                    try clear p2
                    obtain ⟨x12_3, x13_3, rfl, rfl, HA, HK3, HO_6, HB⟩ := hrel
                    cases gk with
                    | zero => exact absurd HA.out (by simp [abacistlaw29_ChirpLengths.l1])
                    | succ k3 =>
                      have H := HA.out
                      clear HA
                      simp only [abacistlaw29_ChirpLengths.l1] at H
                      by_cases c27 : x13_3 < (t255.length : Int)
                      · rw [if_pos c27] at H
                        have c27b0 : decide (x13_3 < (t255.length : Int)) = true := decide_eq_true c27
                        clear c27
                        by_cases c28 : 0 ≤ x13_3
                        · rw [if_pos c28] at H
                          have c28b0 : decide (0 ≤ x13_3) = true := decide_eq_true c28
                          clear c28
                          by_cases c29 : (rd t255 x13_3) = 2
                          · rw [if_pos c29] at H
                            have c29b0 : ((rd t255 x13_3) == 2) = true := beq_iff_eq.mpr c29
                            have c29b1 : ((rd t255 x13_3) != 2) = false := bne_eq_false_iff_eq.mpr c29
                            clear c29
                            by_cases c30 : x13_3 > 0
                            · rw [if_pos c30] at H
                              have c30b0 : decide (0 < x13_3) = true := decide_eq_true c30
                              clear c30
                              obtain ⟨ji31, hji31⟩ : ∃ j_ : Int, (wrap64 (x13_3 - 1)) = j_ := ⟨_, rfl⟩
                              (try (have hji31w : (IntKind.i64.wrap (x13_3 - 1)) = ji31 := by simpa only [i64_w] using hji31))
                              replace H : (if 0 ≤ (ji31) then (if (ji31) < (t255.length : Int) then (if (rd t255 x13_3) < (rd t255 (ji31)) then (some false) else (abacistlaw29_ChirpLengths.l1 k3 a0 a1 t255 t258 t259 (wrap64 (x12_3 * (rd t255 x13_3))) (wrap64 (x13_3 + 1)))) else (none)) else (none)) = some r := by first | (rw [hji31] at H; exact H) | (simp only [hji31] at H ⊢; exact H)
                              have hji31w : (IntKind.i64.wrap (x13_3 - 1)) = ji31 := (i64_w _).trans hji31
                              by_cases c32 : 0 ≤ (ji31)
                              · rw [if_pos c32] at H
                                have c32b0 : decide (0 ≤ (ji31)) = true := decide_eq_true c32
                                clear c32
                                by_cases c33 : (ji31) < (t255.length : Int)
                                · rw [if_pos c33] at H
                                  have c33b0 : decide ((ji31) < (t255.length : Int)) = true := decide_eq_true c33
                                  clear c33
                                  by_cases c34 : (rd t255 x13_3) < (rd t255 (ji31))
                                  · rw [if_pos c34] at H
                                    have c34b0 : decide ((rd t255 x13_3) < (rd t255 (ji31))) = true := decide_eq_true c34
                                    clear c34
                                    obtain rfl := Option.some.inj H
                                    exact absurd hr_.out (by decide)
                                  · rw [if_neg c34] at H
                                    have c34b0 : decide ((rd t255 x13_3) < (rd t255 (ji31))) = false := decide_eq_false c34
                                    clear c34
                                    have H' := Aside0.mk H
                                    clear H
                                    obtain ⟨Ao35, co35, eo35⟩ := Kd.R_slice HO_6.out
                                    subst eo35
                                    have p265 : 0 ≤ (x13_3 : Int) := of_decide_eq_true (by first | (with_reducible assumption) | assumption)
                                    have q265 : x13_3 < (t255.length : Int) := of_decide_eq_true (by first | (with_reducible assumption) | assumption)
                                    obtain ⟨ad265, e265, hx265_0⟩ := Kd.at_int (Kd.R_reads' HO_6.out).2.2 x13_3 p265 q265
                                    cases e265
                                    replace p265 := eq_true p265
                                    replace q265 := eq_true q265
                                    have p266 : 0 ≤ (x13_3 : Int) := of_decide_eq_true (by first | (with_reducible assumption) | assumption)
                                    have q266 : x13_3 < (t255.length : Int) := of_decide_eq_true (by first | (with_reducible assumption) | assumption)
                                    obtain ⟨ad266, e266, hx266_0⟩ := Kd.at_int (Kd.R_reads' HO_6.out).2.2 x13_3 p266 q266
                                    obtain rfl : ad265 = ad266 := (by injection e266)
                                    replace p266 := eq_true p266
                                    replace q266 := eq_true q266
                                    have p267 : 0 ≤ ((ji31) : Int) := of_decide_eq_true (by first | (with_reducible assumption) | assumption)
                                    have q267 : (ji31) < (t255.length : Int) := of_decide_eq_true (by first | (with_reducible assumption) | assumption)
                                    obtain ⟨ad267, e267, hx267_0⟩ := Kd.at_int (Kd.R_reads' HO_6.out).2.2 (ji31) p267 q267
                                    obtain rfl : ad265 = ad267 := (by injection e267)
                                    replace p267 := eq_true p267
                                    replace q267 := eq_true q267
                                    have p268 : 0 ≤ (x13_3 : Int) := of_decide_eq_true (by first | (with_reducible assumption) | assumption)
                                    have q268 : x13_3 < (t255.length : Int) := of_decide_eq_true (by first | (with_reducible assumption) | assumption)
                                    obtain ⟨ad268, e268, hx268_0⟩ := Kd.at_int (Kd.R_reads' HO_6.out).2.2 x13_3 p268 q268
                                    obtain rfl : ad265 = ad268 := (by injection e268)
                                    replace p268 := eq_true p268
                                    replace q268 := eq_true q268
                                    go_wp2
                                    repeat (go_quiet (fail); try go_wp2)
                                    (first | go_roundg k3 | (simp only [add_plain] at *; go_roundg k3))
                                    case measure => have := HJ8.out; have := HK2.out; have := HK3.out; omega
                                    case rel => exact ⟨(wrap64 (x12_3 * (rd t255 x13_3))), (wrap64 (x13_3 + 1)), (by first | rfl | (simp; done) | (simp [*]; done)), (by first | rfl | (simp; done) | (simp [*]; done)), H', ⟨by have := HJ8.out; have := HK2.out; have := HK3.out; omega⟩, ⟨by (with_reducible repeat (first | apply Kd.R_alloc | apply Kd.R_drewN | apply Kd.R_drew)); exact HO_6.out⟩, ⟨by repeat (first | (with_reducible first | exact HB.out | apply below_alloc | apply pw_below_drewN | apply below_drew1) | exact HB.out)⟩⟩
                                · rw [if_neg c33] at H
                                  exact absurd H (by simp)
                              · rw [if_neg c32] at H
                                exact absurd H (by simp)
                            · rw [if_neg c30] at H
                              have c30b0 : decide (0 < x13_3) = false := decide_eq_false c30
                              clear c30
                              have H' := Aside0.mk H
                              clear H
                              obtain ⟨Ao36, co36, eo36⟩ := Kd.R_slice HO_6.out
                              subst eo36
                              have p265 : 0 ≤ (x13_3 : Int) := of_decide_eq_true (by first | (with_reducible assumption) | assumption)
                              have q265 : x13_3 < (t255.length : Int) := of_decide_eq_true (by first | (with_reducible assumption) | assumption)
                              obtain ⟨ad265, e265, hx265_0⟩ := Kd.at_int (Kd.R_reads' HO_6.out).2.2 x13_3 p265 q265
                              cases e265
                              replace p265 := eq_true p265
                              replace q265 := eq_true q265
                              have p269 : 0 ≤ (x13_3 : Int) := of_decide_eq_true (by first | (with_reducible assumption) | assumption)
                              have q269 : x13_3 < (t255.length : Int) := of_decide_eq_true (by first | (with_reducible assumption) | assumption)
                              obtain ⟨ad269, e269, hx269_0⟩ := Kd.at_int (Kd.R_reads' HO_6.out).2.2 x13_3 p269 q269
                              obtain rfl : ad265 = ad269 := (by injection e269)
                              replace p269 := eq_true p269
                              replace q269 := eq_true q269
                              go_wp2
                              repeat (go_quiet (fail); try go_wp2)
                              (first | go_roundg k3 | (simp only [add_plain] at *; go_roundg k3))
                              case measure => have := HJ8.out; have := HK2.out; have := HK3.out; omega
                              case rel => exact ⟨(wrap64 (x12_3 * (rd t255 x13_3))), (wrap64 (x13_3 + 1)), (by first | rfl | (simp; done) | (simp [*]; done)), (by first | rfl | (simp; done) | (simp [*]; done)), H', ⟨by have := HJ8.out; have := HK2.out; have := HK3.out; omega⟩, ⟨by (with_reducible repeat (first | apply Kd.R_alloc | apply Kd.R_drewN | apply Kd.R_drew)); exact HO_6.out⟩, ⟨by repeat (first | (with_reducible first | exact HB.out | apply below_alloc | apply pw_below_drewN | apply below_drew1) | exact HB.out)⟩⟩
                          · rw [if_neg c29] at H
                            have c29b0 : ((rd t255 x13_3) == 2) = false := beq_eq_false_iff_ne.mpr c29
                            have c29b1 : ((rd t255 x13_3) != 2) = true := bne_iff_ne.mpr c29
                            by_cases c37 : (rd t255 x13_3) = 3
                            · rw [if_pos c37] at H
                              have c37b0 : ((rd t255 x13_3) == 3) = true := beq_iff_eq.mpr c37
                              have c37b1 : ((rd t255 x13_3) != 3) = false := bne_eq_false_iff_eq.mpr c37
                              clear c37
                              by_cases c38 : x13_3 > 0
                              · rw [if_pos c38] at H
                                have c38b0 : decide (0 < x13_3) = true := decide_eq_true c38
                                clear c38
                                obtain ⟨ji39, hji39⟩ : ∃ j_ : Int, (wrap64 (x13_3 - 1)) = j_ := ⟨_, rfl⟩
                                (try (have hji39w : (IntKind.i64.wrap (x13_3 - 1)) = ji39 := by simpa only [i64_w] using hji39))
                                replace H : (if 0 ≤ (ji39) then (if (ji39) < (t255.length : Int) then (if (rd t255 x13_3) < (rd t255 (ji39)) then (some false) else (abacistlaw29_ChirpLengths.l1 k3 a0 a1 t255 t258 t259 (wrap64 (x12_3 * (rd t255 x13_3))) (wrap64 (x13_3 + 1)))) else (none)) else (none)) = some r := by first | (rw [hji39] at H; exact H) | (simp only [hji39] at H ⊢; exact H)
                                have hji39w : (IntKind.i64.wrap (x13_3 - 1)) = ji39 := (i64_w _).trans hji39
                                by_cases c40 : 0 ≤ (ji39)
                                · rw [if_pos c40] at H
                                  have c40b0 : decide (0 ≤ (ji39)) = true := decide_eq_true c40
                                  clear c40
                                  by_cases c41 : (ji39) < (t255.length : Int)
                                  · rw [if_pos c41] at H
                                    have c41b0 : decide ((ji39) < (t255.length : Int)) = true := decide_eq_true c41
                                    clear c41
                                    by_cases c42 : (rd t255 x13_3) < (rd t255 (ji39))
                                    · rw [if_pos c42] at H
                                      have c42b0 : decide ((rd t255 x13_3) < (rd t255 (ji39))) = true := decide_eq_true c42
                                      clear c42
                                      obtain rfl := Option.some.inj H
                                      exact absurd hr_.out (by decide)
                                    · rw [if_neg c42] at H
                                      have c42b0 : decide ((rd t255 x13_3) < (rd t255 (ji39))) = false := decide_eq_false c42
                                      clear c42
                                      have H' := Aside0.mk H
                                      clear H
                                      obtain ⟨Ao43, co43, eo43⟩ := Kd.R_slice HO_6.out
                                      subst eo43
                                      have p265 : 0 ≤ (x13_3 : Int) := of_decide_eq_true (by first | (with_reducible assumption) | assumption)
                                      have q265 : x13_3 < (t255.length : Int) := of_decide_eq_true (by first | (with_reducible assumption) | assumption)
                                      obtain ⟨ad265, e265, hx265_0⟩ := Kd.at_int (Kd.R_reads' HO_6.out).2.2 x13_3 p265 q265
                                      cases e265
                                      replace p265 := eq_true p265
                                      replace q265 := eq_true q265
                                      have p270 : 0 ≤ (x13_3 : Int) := of_decide_eq_true (by first | (with_reducible assumption) | assumption)
                                      have q270 : x13_3 < (t255.length : Int) := of_decide_eq_true (by first | (with_reducible assumption) | assumption)
                                      obtain ⟨ad270, e270, hx270_0⟩ := Kd.at_int (Kd.R_reads' HO_6.out).2.2 x13_3 p270 q270
                                      obtain rfl : ad265 = ad270 := (by injection e270)
                                      replace p270 := eq_true p270
                                      replace q270 := eq_true q270
                                      have p271 : 0 ≤ (x13_3 : Int) := of_decide_eq_true (by first | (with_reducible assumption) | assumption)
                                      have q271 : x13_3 < (t255.length : Int) := of_decide_eq_true (by first | (with_reducible assumption) | assumption)
                                      obtain ⟨ad271, e271, hx271_0⟩ := Kd.at_int (Kd.R_reads' HO_6.out).2.2 x13_3 p271 q271
                                      obtain rfl : ad265 = ad271 := (by injection e271)
                                      replace p271 := eq_true p271
                                      replace q271 := eq_true q271
                                      have p272 : 0 ≤ ((ji39) : Int) := of_decide_eq_true (by first | (with_reducible assumption) | assumption)
                                      have q272 : (ji39) < (t255.length : Int) := of_decide_eq_true (by first | (with_reducible assumption) | assumption)
                                      obtain ⟨ad272, e272, hx272_0⟩ := Kd.at_int (Kd.R_reads' HO_6.out).2.2 (ji39) p272 q272
                                      obtain rfl : ad265 = ad272 := (by injection e272)
                                      replace p272 := eq_true p272
                                      replace q272 := eq_true q272
                                      have p273 : 0 ≤ (x13_3 : Int) := of_decide_eq_true (by first | (with_reducible assumption) | assumption)
                                      have q273 : x13_3 < (t255.length : Int) := of_decide_eq_true (by first | (with_reducible assumption) | assumption)
                                      obtain ⟨ad273, e273, hx273_0⟩ := Kd.at_int (Kd.R_reads' HO_6.out).2.2 x13_3 p273 q273
                                      obtain rfl : ad265 = ad273 := (by injection e273)
                                      replace p273 := eq_true p273
                                      replace q273 := eq_true q273
                                      go_wp2
                                      repeat (go_quiet (fail); try go_wp2)
                                      (first | go_roundg k3 | (simp only [add_plain] at *; go_roundg k3))
                                      case measure => have := HJ8.out; have := HK2.out; have := HK3.out; omega
                                      case rel => exact ⟨(wrap64 (x12_3 * (rd t255 x13_3))), (wrap64 (x13_3 + 1)), (by first | rfl | (simp; done) | (simp [*]; done)), (by first | rfl | (simp; done) | (simp [*]; done)), H', ⟨by have := HJ8.out; have := HK2.out; have := HK3.out; omega⟩, ⟨by (with_reducible repeat (first | apply Kd.R_alloc | apply Kd.R_drewN | apply Kd.R_drew)); exact HO_6.out⟩, ⟨by repeat (first | (with_reducible first | exact HB.out | apply below_alloc | apply pw_below_drewN | apply below_drew1) | exact HB.out)⟩⟩
                                  · rw [if_neg c41] at H
                                    exact absurd H (by simp)
                                · rw [if_neg c40] at H
                                  exact absurd H (by simp)
                              · rw [if_neg c38] at H
                                have c38b0 : decide (0 < x13_3) = false := decide_eq_false c38
                                clear c38
                                have H' := Aside0.mk H
                                clear H
                                obtain ⟨Ao44, co44, eo44⟩ := Kd.R_slice HO_6.out
                                subst eo44
                                have p265 : 0 ≤ (x13_3 : Int) := of_decide_eq_true (by first | (with_reducible assumption) | assumption)
                                have q265 : x13_3 < (t255.length : Int) := of_decide_eq_true (by first | (with_reducible assumption) | assumption)
                                obtain ⟨ad265, e265, hx265_0⟩ := Kd.at_int (Kd.R_reads' HO_6.out).2.2 x13_3 p265 q265
                                cases e265
                                replace p265 := eq_true p265
                                replace q265 := eq_true q265
                                have p270 : 0 ≤ (x13_3 : Int) := of_decide_eq_true (by first | (with_reducible assumption) | assumption)
                                have q270 : x13_3 < (t255.length : Int) := of_decide_eq_true (by first | (with_reducible assumption) | assumption)
                                obtain ⟨ad270, e270, hx270_0⟩ := Kd.at_int (Kd.R_reads' HO_6.out).2.2 x13_3 p270 q270
                                obtain rfl : ad265 = ad270 := (by injection e270)
                                replace p270 := eq_true p270
                                replace q270 := eq_true q270
                                have p274 : 0 ≤ (x13_3 : Int) := of_decide_eq_true (by first | (with_reducible assumption) | assumption)
                                have q274 : x13_3 < (t255.length : Int) := of_decide_eq_true (by first | (with_reducible assumption) | assumption)
                                obtain ⟨ad274, e274, hx274_0⟩ := Kd.at_int (Kd.R_reads' HO_6.out).2.2 x13_3 p274 q274
                                obtain rfl : ad265 = ad274 := (by injection e274)
                                replace p274 := eq_true p274
                                replace q274 := eq_true q274
                                go_wp2
                                repeat (go_quiet (fail); try go_wp2)
                                (first | go_roundg k3 | (simp only [add_plain] at *; go_roundg k3))
                                case measure => have := HJ8.out; have := HK2.out; have := HK3.out; omega
                                case rel => exact ⟨(wrap64 (x12_3 * (rd t255 x13_3))), (wrap64 (x13_3 + 1)), (by first | rfl | (simp; done) | (simp [*]; done)), (by first | rfl | (simp; done) | (simp [*]; done)), H', ⟨by have := HJ8.out; have := HK2.out; have := HK3.out; omega⟩, ⟨by (with_reducible repeat (first | apply Kd.R_alloc | apply Kd.R_drewN | apply Kd.R_drew)); exact HO_6.out⟩, ⟨by repeat (first | (with_reducible first | exact HB.out | apply below_alloc | apply pw_below_drewN | apply below_drew1) | exact HB.out)⟩⟩
                            · rw [if_neg c37] at H
                              have c37b0 : ((rd t255 x13_3) == 3) = false := beq_eq_false_iff_ne.mpr c37
                              have c37b1 : ((rd t255 x13_3) != 3) = true := bne_iff_ne.mpr c37
                              by_cases c45 : (rd t255 x13_3) = 5
                              · rw [if_pos c45] at H
                                have c45b0 : ((rd t255 x13_3) == 5) = true := beq_iff_eq.mpr c45
                                have c45b1 : ((rd t255 x13_3) != 5) = false := bne_eq_false_iff_eq.mpr c45
                                clear c45
                                by_cases c46 : x13_3 > 0
                                · rw [if_pos c46] at H
                                  have c46b0 : decide (0 < x13_3) = true := decide_eq_true c46
                                  clear c46
                                  obtain ⟨ji47, hji47⟩ : ∃ j_ : Int, (wrap64 (x13_3 - 1)) = j_ := ⟨_, rfl⟩
                                  (try (have hji47w : (IntKind.i64.wrap (x13_3 - 1)) = ji47 := by simpa only [i64_w] using hji47))
                                  replace H : (if 0 ≤ (ji47) then (if (ji47) < (t255.length : Int) then (if (rd t255 x13_3) < (rd t255 (ji47)) then (some false) else (abacistlaw29_ChirpLengths.l1 k3 a0 a1 t255 t258 t259 (wrap64 (x12_3 * (rd t255 x13_3))) (wrap64 (x13_3 + 1)))) else (none)) else (none)) = some r := by first | (rw [hji47] at H; exact H) | (simp only [hji47] at H ⊢; exact H)
                                  have hji47w : (IntKind.i64.wrap (x13_3 - 1)) = ji47 := (i64_w _).trans hji47
                                  by_cases c48 : 0 ≤ (ji47)
                                  · rw [if_pos c48] at H
                                    have c48b0 : decide (0 ≤ (ji47)) = true := decide_eq_true c48
                                    clear c48
                                    by_cases c49 : (ji47) < (t255.length : Int)
                                    · rw [if_pos c49] at H
                                      have c49b0 : decide ((ji47) < (t255.length : Int)) = true := decide_eq_true c49
                                      clear c49
                                      by_cases c50 : (rd t255 x13_3) < (rd t255 (ji47))
                                      · rw [if_pos c50] at H
                                        have c50b0 : decide ((rd t255 x13_3) < (rd t255 (ji47))) = true := decide_eq_true c50
                                        clear c50
                                        obtain rfl := Option.some.inj H
                                        exact absurd hr_.out (by decide)
                                      · rw [if_neg c50] at H
                                        have c50b0 : decide ((rd t255 x13_3) < (rd t255 (ji47))) = false := decide_eq_false c50
                                        clear c50
                                        have H' := Aside0.mk H
                                        clear H
                                        obtain ⟨Ao51, co51, eo51⟩ := Kd.R_slice HO_6.out
                                        subst eo51
                                        have p265 : 0 ≤ (x13_3 : Int) := of_decide_eq_true (by first | (with_reducible assumption) | assumption)
                                        have q265 : x13_3 < (t255.length : Int) := of_decide_eq_true (by first | (with_reducible assumption) | assumption)
                                        obtain ⟨ad265, e265, hx265_0⟩ := Kd.at_int (Kd.R_reads' HO_6.out).2.2 x13_3 p265 q265
                                        cases e265
                                        replace p265 := eq_true p265
                                        replace q265 := eq_true q265
                                        have p270 : 0 ≤ (x13_3 : Int) := of_decide_eq_true (by first | (with_reducible assumption) | assumption)
                                        have q270 : x13_3 < (t255.length : Int) := of_decide_eq_true (by first | (with_reducible assumption) | assumption)
                                        obtain ⟨ad270, e270, hx270_0⟩ := Kd.at_int (Kd.R_reads' HO_6.out).2.2 x13_3 p270 q270
                                        obtain rfl : ad265 = ad270 := (by injection e270)
                                        replace p270 := eq_true p270
                                        replace q270 := eq_true q270
                                        have p275 : 0 ≤ (x13_3 : Int) := of_decide_eq_true (by first | (with_reducible assumption) | assumption)
                                        have q275 : x13_3 < (t255.length : Int) := of_decide_eq_true (by first | (with_reducible assumption) | assumption)
                                        obtain ⟨ad275, e275, hx275_0⟩ := Kd.at_int (Kd.R_reads' HO_6.out).2.2 x13_3 p275 q275
                                        obtain rfl : ad265 = ad275 := (by injection e275)
                                        replace p275 := eq_true p275
                                        replace q275 := eq_true q275
                                        have p276 : 0 ≤ (x13_3 : Int) := of_decide_eq_true (by first | (with_reducible assumption) | assumption)
                                        have q276 : x13_3 < (t255.length : Int) := of_decide_eq_true (by first | (with_reducible assumption) | assumption)
                                        obtain ⟨ad276, e276, hx276_0⟩ := Kd.at_int (Kd.R_reads' HO_6.out).2.2 x13_3 p276 q276
                                        obtain rfl : ad265 = ad276 := (by injection e276)
                                        replace p276 := eq_true p276
                                        replace q276 := eq_true q276
                                        have p277 : 0 ≤ ((ji47) : Int) := of_decide_eq_true (by first | (with_reducible assumption) | assumption)
                                        have q277 : (ji47) < (t255.length : Int) := of_decide_eq_true (by first | (with_reducible assumption) | assumption)
                                        obtain ⟨ad277, e277, hx277_0⟩ := Kd.at_int (Kd.R_reads' HO_6.out).2.2 (ji47) p277 q277
                                        obtain rfl : ad265 = ad277 := (by injection e277)
                                        replace p277 := eq_true p277
                                        replace q277 := eq_true q277
                                        have p278 : 0 ≤ (x13_3 : Int) := of_decide_eq_true (by first | (with_reducible assumption) | assumption)
                                        have q278 : x13_3 < (t255.length : Int) := of_decide_eq_true (by first | (with_reducible assumption) | assumption)
                                        obtain ⟨ad278, e278, hx278_0⟩ := Kd.at_int (Kd.R_reads' HO_6.out).2.2 x13_3 p278 q278
                                        obtain rfl : ad265 = ad278 := (by injection e278)
                                        replace p278 := eq_true p278
                                        replace q278 := eq_true q278
                                        go_wp2
                                        repeat (go_quiet (fail); try go_wp2)
                                        (first | go_roundg k3 | (simp only [add_plain] at *; go_roundg k3))
                                        case measure => have := HJ8.out; have := HK2.out; have := HK3.out; omega
                                        case rel => exact ⟨(wrap64 (x12_3 * (rd t255 x13_3))), (wrap64 (x13_3 + 1)), (by first | rfl | (simp; done) | (simp [*]; done)), (by first | rfl | (simp; done) | (simp [*]; done)), H', ⟨by have := HJ8.out; have := HK2.out; have := HK3.out; omega⟩, ⟨by (with_reducible repeat (first | apply Kd.R_alloc | apply Kd.R_drewN | apply Kd.R_drew)); exact HO_6.out⟩, ⟨by repeat (first | (with_reducible first | exact HB.out | apply below_alloc | apply pw_below_drewN | apply below_drew1) | exact HB.out)⟩⟩
                                    · rw [if_neg c49] at H
                                      exact absurd H (by simp)
                                  · rw [if_neg c48] at H
                                    exact absurd H (by simp)
                                · rw [if_neg c46] at H
                                  have c46b0 : decide (0 < x13_3) = false := decide_eq_false c46
                                  clear c46
                                  have H' := Aside0.mk H
                                  clear H
                                  obtain ⟨Ao52, co52, eo52⟩ := Kd.R_slice HO_6.out
                                  subst eo52
                                  have p265 : 0 ≤ (x13_3 : Int) := of_decide_eq_true (by first | (with_reducible assumption) | assumption)
                                  have q265 : x13_3 < (t255.length : Int) := of_decide_eq_true (by first | (with_reducible assumption) | assumption)
                                  obtain ⟨ad265, e265, hx265_0⟩ := Kd.at_int (Kd.R_reads' HO_6.out).2.2 x13_3 p265 q265
                                  cases e265
                                  replace p265 := eq_true p265
                                  replace q265 := eq_true q265
                                  have p270 : 0 ≤ (x13_3 : Int) := of_decide_eq_true (by first | (with_reducible assumption) | assumption)
                                  have q270 : x13_3 < (t255.length : Int) := of_decide_eq_true (by first | (with_reducible assumption) | assumption)
                                  obtain ⟨ad270, e270, hx270_0⟩ := Kd.at_int (Kd.R_reads' HO_6.out).2.2 x13_3 p270 q270
                                  obtain rfl : ad265 = ad270 := (by injection e270)
                                  replace p270 := eq_true p270
                                  replace q270 := eq_true q270
                                  have p275 : 0 ≤ (x13_3 : Int) := of_decide_eq_true (by first | (with_reducible assumption) | assumption)
                                  have q275 : x13_3 < (t255.length : Int) := of_decide_eq_true (by first | (with_reducible assumption) | assumption)
                                  obtain ⟨ad275, e275, hx275_0⟩ := Kd.at_int (Kd.R_reads' HO_6.out).2.2 x13_3 p275 q275
                                  obtain rfl : ad265 = ad275 := (by injection e275)
                                  replace p275 := eq_true p275
                                  replace q275 := eq_true q275
                                  have p279 : 0 ≤ (x13_3 : Int) := of_decide_eq_true (by first | (with_reducible assumption) | assumption)
                                  have q279 : x13_3 < (t255.length : Int) := of_decide_eq_true (by first | (with_reducible assumption) | assumption)
                                  obtain ⟨ad279, e279, hx279_0⟩ := Kd.at_int (Kd.R_reads' HO_6.out).2.2 x13_3 p279 q279
                                  obtain rfl : ad265 = ad279 := (by injection e279)
                                  replace p279 := eq_true p279
                                  replace q279 := eq_true q279
                                  go_wp2
                                  repeat (go_quiet (fail); try go_wp2)
                                  (first | go_roundg k3 | (simp only [add_plain] at *; go_roundg k3))
                                  case measure => have := HJ8.out; have := HK2.out; have := HK3.out; omega
                                  case rel => exact ⟨(wrap64 (x12_3 * (rd t255 x13_3))), (wrap64 (x13_3 + 1)), (by first | rfl | (simp; done) | (simp [*]; done)), (by first | rfl | (simp; done) | (simp [*]; done)), H', ⟨by have := HJ8.out; have := HK2.out; have := HK3.out; omega⟩, ⟨by (with_reducible repeat (first | apply Kd.R_alloc | apply Kd.R_drewN | apply Kd.R_drew)); exact HO_6.out⟩, ⟨by repeat (first | (with_reducible first | exact HB.out | apply below_alloc | apply pw_below_drewN | apply below_drew1) | exact HB.out)⟩⟩
                              · rw [if_neg c45] at H
                                have c45b0 : ((rd t255 x13_3) == 5) = false := beq_eq_false_iff_ne.mpr c45
                                have c45b1 : ((rd t255 x13_3) != 5) = true := bne_iff_ne.mpr c45
                                by_cases c53 : (rd t255 x13_3) = 17
                                · rw [if_pos c53] at H
                                  have c53b0 : ((rd t255 x13_3) == 17) = true := beq_iff_eq.mpr c53
                                  have c53b1 : ((rd t255 x13_3) != 17) = false := bne_eq_false_iff_eq.mpr c53
                                  clear c53
                                  by_cases c54 : x13_3 > 0
                                  · rw [if_pos c54] at H
                                    have c54b0 : decide (0 < x13_3) = true := decide_eq_true c54
                                    clear c54
                                    obtain ⟨ji55, hji55⟩ : ∃ j_ : Int, (wrap64 (x13_3 - 1)) = j_ := ⟨_, rfl⟩
                                    (try (have hji55w : (IntKind.i64.wrap (x13_3 - 1)) = ji55 := by simpa only [i64_w] using hji55))
                                    replace H : (if 0 ≤ (ji55) then (if (ji55) < (t255.length : Int) then (if (rd t255 x13_3) < (rd t255 (ji55)) then (some false) else (abacistlaw29_ChirpLengths.l1 k3 a0 a1 t255 t258 t259 (wrap64 (x12_3 * (rd t255 x13_3))) (wrap64 (x13_3 + 1)))) else (none)) else (none)) = some r := by first | (rw [hji55] at H; exact H) | (simp only [hji55] at H ⊢; exact H)
                                    have hji55w : (IntKind.i64.wrap (x13_3 - 1)) = ji55 := (i64_w _).trans hji55
                                    by_cases c56 : 0 ≤ (ji55)
                                    · rw [if_pos c56] at H
                                      have c56b0 : decide (0 ≤ (ji55)) = true := decide_eq_true c56
                                      clear c56
                                      by_cases c57 : (ji55) < (t255.length : Int)
                                      · rw [if_pos c57] at H
                                        have c57b0 : decide ((ji55) < (t255.length : Int)) = true := decide_eq_true c57
                                        clear c57
                                        by_cases c58 : (rd t255 x13_3) < (rd t255 (ji55))
                                        · rw [if_pos c58] at H
                                          have c58b0 : decide ((rd t255 x13_3) < (rd t255 (ji55))) = true := decide_eq_true c58
                                          clear c58
                                          obtain rfl := Option.some.inj H
                                          exact absurd hr_.out (by decide)
                                        · rw [if_neg c58] at H
                                          have c58b0 : decide ((rd t255 x13_3) < (rd t255 (ji55))) = false := decide_eq_false c58
                                          clear c58
                                          have H' := Aside0.mk H
                                          clear H
                                          obtain ⟨Ao59, co59, eo59⟩ := Kd.R_slice HO_6.out
                                          subst eo59
                                          have p265 : 0 ≤ (x13_3 : Int) := of_decide_eq_true (by first | (with_reducible assumption) | assumption)
                                          have q265 : x13_3 < (t255.length : Int) := of_decide_eq_true (by first | (with_reducible assumption) | assumption)
                                          obtain ⟨ad265, e265, hx265_0⟩ := Kd.at_int (Kd.R_reads' HO_6.out).2.2 x13_3 p265 q265
                                          cases e265
                                          replace p265 := eq_true p265
                                          replace q265 := eq_true q265
                                          have p270 : 0 ≤ (x13_3 : Int) := of_decide_eq_true (by first | (with_reducible assumption) | assumption)
                                          have q270 : x13_3 < (t255.length : Int) := of_decide_eq_true (by first | (with_reducible assumption) | assumption)
                                          obtain ⟨ad270, e270, hx270_0⟩ := Kd.at_int (Kd.R_reads' HO_6.out).2.2 x13_3 p270 q270
                                          obtain rfl : ad265 = ad270 := (by injection e270)
                                          replace p270 := eq_true p270
                                          replace q270 := eq_true q270
                                          have p275 : 0 ≤ (x13_3 : Int) := of_decide_eq_true (by first | (with_reducible assumption) | assumption)
                                          have q275 : x13_3 < (t255.length : Int) := of_decide_eq_true (by first | (with_reducible assumption) | assumption)
                                          obtain ⟨ad275, e275, hx275_0⟩ := Kd.at_int (Kd.R_reads' HO_6.out).2.2 x13_3 p275 q275
                                          obtain rfl : ad265 = ad275 := (by injection e275)
                                          replace p275 := eq_true p275
                                          replace q275 := eq_true q275
                                          have p280 : 0 ≤ (x13_3 : Int) := of_decide_eq_true (by first | (with_reducible assumption) | assumption)
                                          have q280 : x13_3 < (t255.length : Int) := of_decide_eq_true (by first | (with_reducible assumption) | assumption)
                                          obtain ⟨ad280, e280, hx280_0⟩ := Kd.at_int (Kd.R_reads' HO_6.out).2.2 x13_3 p280 q280
                                          obtain rfl : ad265 = ad280 := (by injection e280)
                                          replace p280 := eq_true p280
                                          replace q280 := eq_true q280
                                          have p281 : 0 ≤ (x13_3 : Int) := of_decide_eq_true (by first | (with_reducible assumption) | assumption)
                                          have q281 : x13_3 < (t255.length : Int) := of_decide_eq_true (by first | (with_reducible assumption) | assumption)
                                          obtain ⟨ad281, e281, hx281_0⟩ := Kd.at_int (Kd.R_reads' HO_6.out).2.2 x13_3 p281 q281
                                          obtain rfl : ad265 = ad281 := (by injection e281)
                                          replace p281 := eq_true p281
                                          replace q281 := eq_true q281
                                          have p282 : 0 ≤ ((ji55) : Int) := of_decide_eq_true (by first | (with_reducible assumption) | assumption)
                                          have q282 : (ji55) < (t255.length : Int) := of_decide_eq_true (by first | (with_reducible assumption) | assumption)
                                          obtain ⟨ad282, e282, hx282_0⟩ := Kd.at_int (Kd.R_reads' HO_6.out).2.2 (ji55) p282 q282
                                          obtain rfl : ad265 = ad282 := (by injection e282)
                                          replace p282 := eq_true p282
                                          replace q282 := eq_true q282
                                          have p283 : 0 ≤ (x13_3 : Int) := of_decide_eq_true (by first | (with_reducible assumption) | assumption)
                                          have q283 : x13_3 < (t255.length : Int) := of_decide_eq_true (by first | (with_reducible assumption) | assumption)
                                          obtain ⟨ad283, e283, hx283_0⟩ := Kd.at_int (Kd.R_reads' HO_6.out).2.2 x13_3 p283 q283
                                          obtain rfl : ad265 = ad283 := (by injection e283)
                                          replace p283 := eq_true p283
                                          replace q283 := eq_true q283
                                          go_wp2
                                          repeat (go_quiet (fail); try go_wp2)
                                          (first | go_roundg k3 | (simp only [add_plain] at *; go_roundg k3))
                                          case measure => have := HJ8.out; have := HK2.out; have := HK3.out; omega
                                          case rel => exact ⟨(wrap64 (x12_3 * (rd t255 x13_3))), (wrap64 (x13_3 + 1)), (by first | rfl | (simp; done) | (simp [*]; done)), (by first | rfl | (simp; done) | (simp [*]; done)), H', ⟨by have := HJ8.out; have := HK2.out; have := HK3.out; omega⟩, ⟨by (with_reducible repeat (first | apply Kd.R_alloc | apply Kd.R_drewN | apply Kd.R_drew)); exact HO_6.out⟩, ⟨by repeat (first | (with_reducible first | exact HB.out | apply below_alloc | apply pw_below_drewN | apply below_drew1) | exact HB.out)⟩⟩
                                      · rw [if_neg c57] at H
                                        exact absurd H (by simp)
                                    · rw [if_neg c56] at H
                                      exact absurd H (by simp)
                                  · rw [if_neg c54] at H
                                    have c54b0 : decide (0 < x13_3) = false := decide_eq_false c54
                                    clear c54
                                    have H' := Aside0.mk H
                                    clear H
                                    obtain ⟨Ao60, co60, eo60⟩ := Kd.R_slice HO_6.out
                                    subst eo60
                                    have p265 : 0 ≤ (x13_3 : Int) := of_decide_eq_true (by first | (with_reducible assumption) | assumption)
                                    have q265 : x13_3 < (t255.length : Int) := of_decide_eq_true (by first | (with_reducible assumption) | assumption)
                                    obtain ⟨ad265, e265, hx265_0⟩ := Kd.at_int (Kd.R_reads' HO_6.out).2.2 x13_3 p265 q265
                                    cases e265
                                    replace p265 := eq_true p265
                                    replace q265 := eq_true q265
                                    have p270 : 0 ≤ (x13_3 : Int) := of_decide_eq_true (by first | (with_reducible assumption) | assumption)
                                    have q270 : x13_3 < (t255.length : Int) := of_decide_eq_true (by first | (with_reducible assumption) | assumption)
                                    obtain ⟨ad270, e270, hx270_0⟩ := Kd.at_int (Kd.R_reads' HO_6.out).2.2 x13_3 p270 q270
                                    obtain rfl : ad265 = ad270 := (by injection e270)
                                    replace p270 := eq_true p270
                                    replace q270 := eq_true q270
                                    have p275 : 0 ≤ (x13_3 : Int) := of_decide_eq_true (by first | (with_reducible assumption) | assumption)
                                    have q275 : x13_3 < (t255.length : Int) := of_decide_eq_true (by first | (with_reducible assumption) | assumption)
                                    obtain ⟨ad275, e275, hx275_0⟩ := Kd.at_int (Kd.R_reads' HO_6.out).2.2 x13_3 p275 q275
                                    obtain rfl : ad265 = ad275 := (by injection e275)
                                    replace p275 := eq_true p275
                                    replace q275 := eq_true q275
                                    have p280 : 0 ≤ (x13_3 : Int) := of_decide_eq_true (by first | (with_reducible assumption) | assumption)
                                    have q280 : x13_3 < (t255.length : Int) := of_decide_eq_true (by first | (with_reducible assumption) | assumption)
                                    obtain ⟨ad280, e280, hx280_0⟩ := Kd.at_int (Kd.R_reads' HO_6.out).2.2 x13_3 p280 q280
                                    obtain rfl : ad265 = ad280 := (by injection e280)
                                    replace p280 := eq_true p280
                                    replace q280 := eq_true q280
                                    have p284 : 0 ≤ (x13_3 : Int) := of_decide_eq_true (by first | (with_reducible assumption) | assumption)
                                    have q284 : x13_3 < (t255.length : Int) := of_decide_eq_true (by first | (with_reducible assumption) | assumption)
                                    obtain ⟨ad284, e284, hx284_0⟩ := Kd.at_int (Kd.R_reads' HO_6.out).2.2 x13_3 p284 q284
                                    obtain rfl : ad265 = ad284 := (by injection e284)
                                    replace p284 := eq_true p284
                                    replace q284 := eq_true q284
                                    go_wp2
                                    repeat (go_quiet (fail); try go_wp2)
                                    (first | go_roundg k3 | (simp only [add_plain] at *; go_roundg k3))
                                    case measure => have := HJ8.out; have := HK2.out; have := HK3.out; omega
                                    case rel => exact ⟨(wrap64 (x12_3 * (rd t255 x13_3))), (wrap64 (x13_3 + 1)), (by first | rfl | (simp; done) | (simp [*]; done)), (by first | rfl | (simp; done) | (simp [*]; done)), H', ⟨by have := HJ8.out; have := HK2.out; have := HK3.out; omega⟩, ⟨by (with_reducible repeat (first | apply Kd.R_alloc | apply Kd.R_drewN | apply Kd.R_drew)); exact HO_6.out⟩, ⟨by repeat (first | (with_reducible first | exact HB.out | apply below_alloc | apply pw_below_drewN | apply below_drew1) | exact HB.out)⟩⟩
                                · rw [if_neg c53] at H
                                  have c53b0 : ((rd t255 x13_3) == 17) = false := beq_eq_false_iff_ne.mpr c53
                                  have c53b1 : ((rd t255 x13_3) != 17) = true := bne_iff_ne.mpr c53
                                  by_cases c61 : (rd t255 x13_3) = 257
                                  · rw [if_pos c61] at H
                                    have c61b0 : ((rd t255 x13_3) == 257) = true := beq_iff_eq.mpr c61
                                    have c61b1 : ((rd t255 x13_3) != 257) = false := bne_eq_false_iff_eq.mpr c61
                                    clear c61
                                    by_cases c62 : x13_3 > 0
                                    · rw [if_pos c62] at H
                                      have c62b0 : decide (0 < x13_3) = true := decide_eq_true c62
                                      clear c62
                                      obtain ⟨ji63, hji63⟩ : ∃ j_ : Int, (wrap64 (x13_3 - 1)) = j_ := ⟨_, rfl⟩
                                      (try (have hji63w : (IntKind.i64.wrap (x13_3 - 1)) = ji63 := by simpa only [i64_w] using hji63))
                                      replace H : (if 0 ≤ (ji63) then (if (ji63) < (t255.length : Int) then (if (rd t255 x13_3) < (rd t255 (ji63)) then (some false) else (abacistlaw29_ChirpLengths.l1 k3 a0 a1 t255 t258 t259 (wrap64 (x12_3 * (rd t255 x13_3))) (wrap64 (x13_3 + 1)))) else (none)) else (none)) = some r := by first | (rw [hji63] at H; exact H) | (simp only [hji63] at H ⊢; exact H)
                                      have hji63w : (IntKind.i64.wrap (x13_3 - 1)) = ji63 := (i64_w _).trans hji63
                                      by_cases c64 : 0 ≤ (ji63)
                                      · rw [if_pos c64] at H
                                        have c64b0 : decide (0 ≤ (ji63)) = true := decide_eq_true c64
                                        clear c64
                                        by_cases c65 : (ji63) < (t255.length : Int)
                                        · rw [if_pos c65] at H
                                          have c65b0 : decide ((ji63) < (t255.length : Int)) = true := decide_eq_true c65
                                          clear c65
                                          by_cases c66 : (rd t255 x13_3) < (rd t255 (ji63))
                                          · rw [if_pos c66] at H
                                            have c66b0 : decide ((rd t255 x13_3) < (rd t255 (ji63))) = true := decide_eq_true c66
                                            clear c66
                                            obtain rfl := Option.some.inj H
                                            exact absurd hr_.out (by decide)
                                          · rw [if_neg c66] at H
                                            have c66b0 : decide ((rd t255 x13_3) < (rd t255 (ji63))) = false := decide_eq_false c66
                                            clear c66
                                            have H' := Aside0.mk H
                                            clear H
                                            obtain ⟨Ao67, co67, eo67⟩ := Kd.R_slice HO_6.out
                                            subst eo67
                                            have p265 : 0 ≤ (x13_3 : Int) := of_decide_eq_true (by first | (with_reducible assumption) | assumption)
                                            have q265 : x13_3 < (t255.length : Int) := of_decide_eq_true (by first | (with_reducible assumption) | assumption)
                                            obtain ⟨ad265, e265, hx265_0⟩ := Kd.at_int (Kd.R_reads' HO_6.out).2.2 x13_3 p265 q265
                                            cases e265
                                            replace p265 := eq_true p265
                                            replace q265 := eq_true q265
                                            have p270 : 0 ≤ (x13_3 : Int) := of_decide_eq_true (by first | (with_reducible assumption) | assumption)
                                            have q270 : x13_3 < (t255.length : Int) := of_decide_eq_true (by first | (with_reducible assumption) | assumption)
                                            obtain ⟨ad270, e270, hx270_0⟩ := Kd.at_int (Kd.R_reads' HO_6.out).2.2 x13_3 p270 q270
                                            obtain rfl : ad265 = ad270 := (by injection e270)
                                            replace p270 := eq_true p270
                                            replace q270 := eq_true q270
                                            have p275 : 0 ≤ (x13_3 : Int) := of_decide_eq_true (by first | (with_reducible assumption) | assumption)
                                            have q275 : x13_3 < (t255.length : Int) := of_decide_eq_true (by first | (with_reducible assumption) | assumption)
                                            obtain ⟨ad275, e275, hx275_0⟩ := Kd.at_int (Kd.R_reads' HO_6.out).2.2 x13_3 p275 q275
                                            obtain rfl : ad265 = ad275 := (by injection e275)
                                            replace p275 := eq_true p275
                                            replace q275 := eq_true q275
                                            have p280 : 0 ≤ (x13_3 : Int) := of_decide_eq_true (by first | (with_reducible assumption) | assumption)
                                            have q280 : x13_3 < (t255.length : Int) := of_decide_eq_true (by first | (with_reducible assumption) | assumption)
                                            obtain ⟨ad280, e280, hx280_0⟩ := Kd.at_int (Kd.R_reads' HO_6.out).2.2 x13_3 p280 q280
                                            obtain rfl : ad265 = ad280 := (by injection e280)
                                            replace p280 := eq_true p280
                                            replace q280 := eq_true q280
                                            have p285 : 0 ≤ (x13_3 : Int) := of_decide_eq_true (by first | (with_reducible assumption) | assumption)
                                            have q285 : x13_3 < (t255.length : Int) := of_decide_eq_true (by first | (with_reducible assumption) | assumption)
                                            obtain ⟨ad285, e285, hx285_0⟩ := Kd.at_int (Kd.R_reads' HO_6.out).2.2 x13_3 p285 q285
                                            obtain rfl : ad265 = ad285 := (by injection e285)
                                            replace p285 := eq_true p285
                                            replace q285 := eq_true q285
                                            have p286 : 0 ≤ (x13_3 : Int) := of_decide_eq_true (by first | (with_reducible assumption) | assumption)
                                            have q286 : x13_3 < (t255.length : Int) := of_decide_eq_true (by first | (with_reducible assumption) | assumption)
                                            obtain ⟨ad286, e286, hx286_0⟩ := Kd.at_int (Kd.R_reads' HO_6.out).2.2 x13_3 p286 q286
                                            obtain rfl : ad265 = ad286 := (by injection e286)
                                            replace p286 := eq_true p286
                                            replace q286 := eq_true q286
                                            have p287 : 0 ≤ ((ji63) : Int) := of_decide_eq_true (by first | (with_reducible assumption) | assumption)
                                            have q287 : (ji63) < (t255.length : Int) := of_decide_eq_true (by first | (with_reducible assumption) | assumption)
                                            obtain ⟨ad287, e287, hx287_0⟩ := Kd.at_int (Kd.R_reads' HO_6.out).2.2 (ji63) p287 q287
                                            obtain rfl : ad265 = ad287 := (by injection e287)
                                            replace p287 := eq_true p287
                                            replace q287 := eq_true q287
                                            have p288 : 0 ≤ (x13_3 : Int) := of_decide_eq_true (by first | (with_reducible assumption) | assumption)
                                            have q288 : x13_3 < (t255.length : Int) := of_decide_eq_true (by first | (with_reducible assumption) | assumption)
                                            obtain ⟨ad288, e288, hx288_0⟩ := Kd.at_int (Kd.R_reads' HO_6.out).2.2 x13_3 p288 q288
                                            obtain rfl : ad265 = ad288 := (by injection e288)
                                            replace p288 := eq_true p288
                                            replace q288 := eq_true q288
                                            go_wp2
                                            repeat (go_quiet (fail); try go_wp2)
                                            (first | go_roundg k3 | (simp only [add_plain] at *; go_roundg k3))
                                            case measure => have := HJ8.out; have := HK2.out; have := HK3.out; omega
                                            case rel => exact ⟨(wrap64 (x12_3 * (rd t255 x13_3))), (wrap64 (x13_3 + 1)), (by first | rfl | (simp; done) | (simp [*]; done)), (by first | rfl | (simp; done) | (simp [*]; done)), H', ⟨by have := HJ8.out; have := HK2.out; have := HK3.out; omega⟩, ⟨by (with_reducible repeat (first | apply Kd.R_alloc | apply Kd.R_drewN | apply Kd.R_drew)); exact HO_6.out⟩, ⟨by repeat (first | (with_reducible first | exact HB.out | apply below_alloc | apply pw_below_drewN | apply below_drew1) | exact HB.out)⟩⟩
                                        · rw [if_neg c65] at H
                                          exact absurd H (by simp)
                                      · rw [if_neg c64] at H
                                        exact absurd H (by simp)
                                    · rw [if_neg c62] at H
                                      have c62b0 : decide (0 < x13_3) = false := decide_eq_false c62
                                      clear c62
                                      have H' := Aside0.mk H
                                      clear H
                                      obtain ⟨Ao68, co68, eo68⟩ := Kd.R_slice HO_6.out
                                      subst eo68
                                      have p265 : 0 ≤ (x13_3 : Int) := of_decide_eq_true (by first | (with_reducible assumption) | assumption)
                                      have q265 : x13_3 < (t255.length : Int) := of_decide_eq_true (by first | (with_reducible assumption) | assumption)
                                      obtain ⟨ad265, e265, hx265_0⟩ := Kd.at_int (Kd.R_reads' HO_6.out).2.2 x13_3 p265 q265
                                      cases e265
                                      replace p265 := eq_true p265
                                      replace q265 := eq_true q265
                                      have p270 : 0 ≤ (x13_3 : Int) := of_decide_eq_true (by first | (with_reducible assumption) | assumption)
                                      have q270 : x13_3 < (t255.length : Int) := of_decide_eq_true (by first | (with_reducible assumption) | assumption)
                                      obtain ⟨ad270, e270, hx270_0⟩ := Kd.at_int (Kd.R_reads' HO_6.out).2.2 x13_3 p270 q270
                                      obtain rfl : ad265 = ad270 := (by injection e270)
                                      replace p270 := eq_true p270
                                      replace q270 := eq_true q270
                                      have p275 : 0 ≤ (x13_3 : Int) := of_decide_eq_true (by first | (with_reducible assumption) | assumption)
                                      have q275 : x13_3 < (t255.length : Int) := of_decide_eq_true (by first | (with_reducible assumption) | assumption)
                                      obtain ⟨ad275, e275, hx275_0⟩ := Kd.at_int (Kd.R_reads' HO_6.out).2.2 x13_3 p275 q275
                                      obtain rfl : ad265 = ad275 := (by injection e275)
                                      replace p275 := eq_true p275
                                      replace q275 := eq_true q275
                                      have p280 : 0 ≤ (x13_3 : Int) := of_decide_eq_true (by first | (with_reducible assumption) | assumption)
                                      have q280 : x13_3 < (t255.length : Int) := of_decide_eq_true (by first | (with_reducible assumption) | assumption)
                                      obtain ⟨ad280, e280, hx280_0⟩ := Kd.at_int (Kd.R_reads' HO_6.out).2.2 x13_3 p280 q280
                                      obtain rfl : ad265 = ad280 := (by injection e280)
                                      replace p280 := eq_true p280
                                      replace q280 := eq_true q280
                                      have p285 : 0 ≤ (x13_3 : Int) := of_decide_eq_true (by first | (with_reducible assumption) | assumption)
                                      have q285 : x13_3 < (t255.length : Int) := of_decide_eq_true (by first | (with_reducible assumption) | assumption)
                                      obtain ⟨ad285, e285, hx285_0⟩ := Kd.at_int (Kd.R_reads' HO_6.out).2.2 x13_3 p285 q285
                                      obtain rfl : ad265 = ad285 := (by injection e285)
                                      replace p285 := eq_true p285
                                      replace q285 := eq_true q285
                                      have p289 : 0 ≤ (x13_3 : Int) := of_decide_eq_true (by first | (with_reducible assumption) | assumption)
                                      have q289 : x13_3 < (t255.length : Int) := of_decide_eq_true (by first | (with_reducible assumption) | assumption)
                                      obtain ⟨ad289, e289, hx289_0⟩ := Kd.at_int (Kd.R_reads' HO_6.out).2.2 x13_3 p289 q289
                                      obtain rfl : ad265 = ad289 := (by injection e289)
                                      replace p289 := eq_true p289
                                      replace q289 := eq_true q289
                                      go_wp2
                                      repeat (go_quiet (fail); try go_wp2)
                                      (first | go_roundg k3 | (simp only [add_plain] at *; go_roundg k3))
                                      case measure => have := HJ8.out; have := HK2.out; have := HK3.out; omega
                                      case rel => exact ⟨(wrap64 (x12_3 * (rd t255 x13_3))), (wrap64 (x13_3 + 1)), (by first | rfl | (simp; done) | (simp [*]; done)), (by first | rfl | (simp; done) | (simp [*]; done)), H', ⟨by have := HJ8.out; have := HK2.out; have := HK3.out; omega⟩, ⟨by (with_reducible repeat (first | apply Kd.R_alloc | apply Kd.R_drewN | apply Kd.R_drew)); exact HO_6.out⟩, ⟨by repeat (first | (with_reducible first | exact HB.out | apply below_alloc | apply pw_below_drewN | apply below_drew1) | exact HB.out)⟩⟩
                                  · rw [if_neg c61] at H
                                    have c61b0 : ((rd t255 x13_3) == 257) = false := beq_eq_false_iff_ne.mpr c61
                                    have c61b1 : ((rd t255 x13_3) != 257) = true := bne_iff_ne.mpr c61
                                    obtain rfl := Option.some.inj H
                                    exact absurd hr_.out (by decide)
                        · rw [if_neg c28] at H
                          exact absurd H (by simp)
                      · rw [if_neg c27] at H
                        have c27b0 : decide (x13_3 < (t255.length : Int)) = false := decide_eq_false c27
                        clear c27
                        by_cases c69 : a1 = 0
                        · rw [if_pos c69] at H
                          have c69b0 : (a1 == 0) = true := beq_iff_eq.mpr c69
                          have c69b1 : (a1 != 0) = false := bne_eq_false_iff_eq.mpr c69
                          clear c69
                          by_cases c70 : x12_3 = a0
                          · rw [if_pos c70] at H
                            have c70b0 : (x12_3 == a0) = true := beq_iff_eq.mpr c70
                            have c70b1 : (x12_3 != a0) = false := bne_eq_false_iff_eq.mpr c70
                            clear c70
                            by_cases c71 : t259 = 0
                            · rw [if_pos c71] at H
                              have c71b0 : (t259 == 0) = true := beq_iff_eq.mpr c71
                              have c71b1 : (t259 != 0) = false := bne_eq_false_iff_eq.mpr c71
                              clear c71
                              replace H := Option.bind_eq_some_iff.mp H
                              obtain ⟨t290, A720, H⟩ := H
                              replace H : (some (t258 == t290)) = some r := H
                              have A72 := Aside0.mk A720
                              clear A720
                              obtain rfl := Option.some.inj H
                              obtain ⟨Ao73, co73, eo73⟩ := Kd.R_slice HO_6.out
                              subst eo73
                              go_wp2_with (first | (go_at_call 17; (with_reducible refine (abacistref29_Root.calls k3 a0 a1 t290 _ A72.out).mono ?_); rintro e w' ⟨rfl, ⟨nd, rfl⟩⟩; (try first | exact ⟨rfl, _, World.drewN_drewN _ _ _⟩ | exact ⟨rfl, _, Eq.trans (World.drewN_drewN _ _ _) (congrArg (World.drewN _) (Nat.add_assoc _ _ _))⟩)))
                              repeat (go_quiet (first | (go_at_call 17; (with_reducible refine (abacistref29_Root.calls k3 a0 a1 t290 _ A72.out).mono ?_); rintro e w' ⟨rfl, ⟨nd, rfl⟩⟩; (try first | exact ⟨rfl, _, World.drewN_drewN _ _ _⟩ | exact ⟨rfl, _, Eq.trans (World.drewN_drewN _ _ _) (congrArg (World.drewN _) (Nat.add_assoc _ _ _))⟩))); try go_wp2_with (first | (go_at_call 17; (with_reducible refine (abacistref29_Root.calls k3 a0 a1 t290 _ A72.out).mono ?_); rintro e w' ⟨rfl, ⟨nd, rfl⟩⟩; (try first | exact ⟨rfl, _, World.drewN_drewN _ _ _⟩ | exact ⟨rfl, _, Eq.trans (World.drewN_drewN _ _ _) (congrArg (World.drewN _) (Nat.add_assoc _ _ _))⟩))))
                              go_ret
                              exact ⟨by first | rfl | (simp [errW_none, errW_some] <;> rfl) | (simp only [← hji22]; first | rfl | (simp [errW_none, errW_some] <;> rfl)) | (simp [*, errW_none, errW_some] <;> rfl), by repeat (first | (with_reducible first | exact HB.out | apply below_alloc | apply pw_below_drewN | apply below_drew1) | exact HB.out)⟩
                            · rw [if_neg c71] at H
                              have c71b0 : (t259 == 0) = false := beq_eq_false_iff_ne.mpr c71
                              have c71b1 : (t259 != 0) = true := bne_iff_ne.mpr c71
                              obtain rfl := Option.some.inj H
                              exact absurd hr_.out (by decide)
                          · rw [if_neg c70] at H
                            have c70b0 : (x12_3 == a0) = false := beq_eq_false_iff_ne.mpr c70
                            have c70b1 : (x12_3 != a0) = true := bne_iff_ne.mpr c70
                            obtain rfl := Option.some.inj H
                            exact absurd hr_.out (by decide)
                        · rw [if_neg c69] at H
                          have c69b0 : (a1 == 0) = false := beq_eq_false_iff_ne.mpr c69
                          have c69b1 : (a1 != 0) = true := bne_iff_ne.mpr c69
                          by_cases c74 : a1 = 1
                          · rw [if_pos c74] at H
                            have c74b0 : (a1 == 1) = true := beq_iff_eq.mpr c74
                            have c74b1 : (a1 != 1) = false := bne_eq_false_iff_eq.mpr c74
                            clear c74
                            by_cases c75 : x12_3 = a0
                            · rw [if_pos c75] at H
                              have c75b0 : (x12_3 == a0) = true := beq_iff_eq.mpr c75
                              have c75b1 : (x12_3 != a0) = false := bne_eq_false_iff_eq.mpr c75
                              clear c75
                              by_cases c76 : t259 = 0
                              · rw [if_pos c76] at H
                                have c76b0 : (t259 == 0) = true := beq_iff_eq.mpr c76
                                have c76b1 : (t259 != 0) = false := bne_eq_false_iff_eq.mpr c76
                                clear c76
                                replace H := Option.bind_eq_some_iff.mp H
                                obtain ⟨t291, A770, H⟩ := H
                                replace H : (some (t258 == t291)) = some r := H
                                have A77 := Aside0.mk A770
                                clear A770
                                obtain rfl := Option.some.inj H
                                obtain ⟨Ao78, co78, eo78⟩ := Kd.R_slice HO_6.out
                                subst eo78
                                go_wp2_with (first | (go_at_call 17; (with_reducible refine (abacistref29_Root.calls k3 a0 a1 t291 _ A77.out).mono ?_); rintro e w' ⟨rfl, ⟨nd, rfl⟩⟩; (try first | exact ⟨rfl, _, World.drewN_drewN _ _ _⟩ | exact ⟨rfl, _, Eq.trans (World.drewN_drewN _ _ _) (congrArg (World.drewN _) (Nat.add_assoc _ _ _))⟩)))
                                repeat (go_quiet (first | (go_at_call 17; (with_reducible refine (abacistref29_Root.calls k3 a0 a1 t291 _ A77.out).mono ?_); rintro e w' ⟨rfl, ⟨nd, rfl⟩⟩; (try first | exact ⟨rfl, _, World.drewN_drewN _ _ _⟩ | exact ⟨rfl, _, Eq.trans (World.drewN_drewN _ _ _) (congrArg (World.drewN _) (Nat.add_assoc _ _ _))⟩))); try go_wp2_with (first | (go_at_call 17; (with_reducible refine (abacistref29_Root.calls k3 a0 a1 t291 _ A77.out).mono ?_); rintro e w' ⟨rfl, ⟨nd, rfl⟩⟩; (try first | exact ⟨rfl, _, World.drewN_drewN _ _ _⟩ | exact ⟨rfl, _, Eq.trans (World.drewN_drewN _ _ _) (congrArg (World.drewN _) (Nat.add_assoc _ _ _))⟩))))
                                go_ret
                                exact ⟨by first | rfl | (simp [errW_none, errW_some] <;> rfl) | (simp only [← hji22]; first | rfl | (simp [errW_none, errW_some] <;> rfl)) | (simp [*, errW_none, errW_some] <;> rfl), by repeat (first | (with_reducible first | exact HB.out | apply below_alloc | apply pw_below_drewN | apply below_drew1) | exact HB.out)⟩
                              · rw [if_neg c76] at H
                                have c76b0 : (t259 == 0) = false := beq_eq_false_iff_ne.mpr c76
                                have c76b1 : (t259 != 0) = true := bne_iff_ne.mpr c76
                                obtain rfl := Option.some.inj H
                                exact absurd hr_.out (by decide)
                            · rw [if_neg c75] at H
                              have c75b0 : (x12_3 == a0) = false := beq_eq_false_iff_ne.mpr c75
                              have c75b1 : (x12_3 != a0) = true := bne_iff_ne.mpr c75
                              obtain rfl := Option.some.inj H
                              exact absurd hr_.out (by decide)
                          · rw [if_neg c74] at H
                            have c74b0 : (a1 == 1) = false := beq_eq_false_iff_ne.mpr c74
                            have c74b1 : (a1 != 1) = true := bne_iff_ne.mpr c74
                            by_cases c79 : x12_3 = a0
                            · rw [if_pos c79] at H
                              have c79b0 : (x12_3 == a0) = true := beq_iff_eq.mpr c79
                              have c79b1 : (x12_3 != a0) = false := bne_eq_false_iff_eq.mpr c79
                              clear c79
                              by_cases c80 : t259 = 18
                              · rw [if_pos c80] at H
                                have c80b0 : (t259 == 18) = true := beq_iff_eq.mpr c80
                                have c80b1 : (t259 != 18) = false := bne_eq_false_iff_eq.mpr c80
                                clear c80
                                obtain rfl := Option.some.inj H
                                obtain ⟨Ao81, co81, eo81⟩ := Kd.R_slice HO_6.out
                                subst eo81
                                go_wp2
                                repeat (go_quiet (fail); try go_wp2)
                                go_ret
                                exact ⟨by first | rfl | (simp [errW_none, errW_some] <;> rfl) | (simp only [← hji22]; first | rfl | (simp [errW_none, errW_some] <;> rfl)) | (simp [*, errW_none, errW_some] <;> rfl), by repeat (first | (with_reducible first | exact HB.out | apply below_alloc | apply pw_below_drewN | apply below_drew1) | exact HB.out)⟩
                              · rw [if_neg c80] at H
                                have c80b0 : (t259 == 18) = false := beq_eq_false_iff_ne.mpr c80
                                have c80b1 : (t259 != 18) = true := bne_iff_ne.mpr c80
                                obtain rfl := Option.some.inj H
                                exact absurd hr_.out (by decide)
                            · rw [if_neg c79] at H
                              have c79b0 : (x12_3 == a0) = false := beq_eq_false_iff_ne.mpr c79
                              have c79b1 : (x12_3 != a0) = true := bne_iff_ne.mpr c79
                              obtain rfl := Option.some.inj H
                              exact absurd hr_.out (by decide)
                · replace c26 := Bool.eq_false_iff.mpr c26
                  subst c26
                  have H1 : (if (t255.length : Int) = 0 then (if t259 = 4 then (some (t258 == 0)) else (some false)) else (some false)) = some r := by rw [if_neg (show ¬ (false = true) by decide)] at H; exact H
                  clear H
                  have H := H1
                  clear H1
                  by_cases c82 : (t255.length : Int) = 0
                  · rw [if_pos c82] at H
                    have c82b0 : ((t255.length : Int) == 0) = true := beq_iff_eq.mpr c82
                    have c82b1 : ((t255.length : Int) != 0) = false := bne_eq_false_iff_eq.mpr c82
                    clear c82
                    by_cases c83 : t259 = 4
                    · rw [if_pos c83] at H
                      have c83b0 : (t259 == 4) = true := beq_iff_eq.mpr c83
                      have c83b1 : (t259 != 4) = false := bne_eq_false_iff_eq.mpr c83
                      clear c83
                      obtain rfl := Option.some.inj H
                      obtain ⟨Ao84, co84, eo84⟩ := Kd.R_slice HO_6.out
                      subst eo84
                      go_wp2
                      repeat (go_quiet (fail); try go_wp2)
                      go_ret
                      exact ⟨by first | rfl | (simp [errW_none, errW_some] <;> rfl) | (simp only [← hji22]; first | rfl | (simp [errW_none, errW_some] <;> rfl)) | (simp [*, errW_none, errW_some] <;> rfl), by repeat (first | (with_reducible first | exact HB.out | apply below_alloc | apply pw_below_drewN | apply below_drew1) | exact HB.out)⟩
                    · rw [if_neg c83] at H
                      have c83b0 : (t259 == 4) = false := beq_eq_false_iff_ne.mpr c83
                      have c83b1 : (t259 != 4) = true := bne_iff_ne.mpr c83
                      obtain rfl := Option.some.inj H
                      exact absurd hr_.out (by decide)
                  · rw [if_neg c82] at H
                    have c82b0 : ((t255.length : Int) == 0) = false := beq_eq_false_iff_ne.mpr c82
                    have c82b1 : ((t255.length : Int) != 0) = true := bne_iff_ne.mpr c82
                    have c82b2 : ¬ (t255 = []) := fun h_ => c82 (by rw [h_]; rfl)
                    obtain rfl := Option.some.inj H
                    exact absurd hr_.out (by decide)
  · replace c4 := Bool.eq_false_iff.mpr c4
    subst c4
    have H1 : (some false) = some r := by rw [if_neg (show ¬ (false = true) by decide)] at H; exact H
    clear H
    have H := H1
    clear H1
    obtain rfl := Option.some.inj H
    exact absurd hr_.out (by decide)

/-- THE ONE PURE STATEMENT of abacistlaw29_ChirpLengths: yours. -/
def abacistlaw29_ChirpLengths.Pure : Prop := ∀ (a0 : Int) (a1 : Int), (Lit.int .i64 a0).wf = true → (Lit.int .i64 a1).wf = true → ∃ k, abacistlaw29_ChirpLengths.f k a0 a1 = some true
theorem abacistlaw29_ChirpLengths.walk (P : abacistlaw29_ChirpLengths.Pure) (a0 : Int) (a1 : Int) (w : World) (hG : Aside0 (TzTab w)) (w0 : (Lit.int .i64 a0).wf = true) (w1 : (Lit.int .i64 a1).wf = true) :
    Calls Tryd.prog 4 #[.int .i64 a0, .int .i64 a1] w fun e w' => e = .returned (.bool true) ∧ Below w.heap.size w w' := by
  obtain ⟨k, h⟩ := P a0 a1 w0 w1
  refine (abacistlaw29_ChirpLengths.calls k a0 a1 true ⟨rfl⟩ w hG h).mono ?_
  rintro e w' ⟨rfl, hd⟩
  exact ⟨rfl, hd⟩

end Go.Proofs.YtnmjomcpkckihaaDoor.PChirpLengths
