-- Written for this claim by wip/gen/mk.sh, this session's own driver over the kit's print
import Derived.Test.YtdnmoefdonanbaaDoorPProofTellsx0
import Derived.Test.YtdnmoefdonanbaaDoorPProofTellsx1
import Derived.Test.YtdnmoefdonanbaaDoorPProofTellsx4
import Derived.Test.YtdnmoefdonanbaaDoorPProofTellsx5
import Derived.Test.YtdnmoefdonanbaaDoorPProofTellsx6
import Derived.Test.YtdnmoefdonanbaaDoorPProofTellsx7
namespace Go.Proofs.YtdnmoefdonanbaaDoor.PProofTells
open Go.RowKit Go.Proofs.YtdnmoefdonanbaaDoorW.PrintWords Go.Proofs.YtdnmoefdonanbaaDoorW.PrintLast Go.Proofs.YtdnmoefdonanbaaDoorW.PrintMore
attribute [local go_sem] max2_int min2_int max_two min_two max_three min_three max_four min_four   -- for this text's walks alone
set_option linter.unusedVariables false
set_option linter.unusedSimpArgs false

/-! ### abacistlaw28_ProofTells: function 4 -/
mutual
def abacistlaw28_ProofTells.j0 : Nat → List Int → List Int → Int → Int → Bool → Option (Bool)
  | 0, _, _, _, _, _ => none
  | k + 1, x0, x1, x2, x3, x34 => if x34 = true then (some true) else ((proof_Fits.f k x0 x1 x2 x3).bind fun bt319 => ((proof_Ends.f k x0 x1 x2).bind fun bt321 => ((proof_All.f k x0 x1 x2 (([x3] : List Int))).bind fun bt326 => ((proof_Power.f k x0 x1).bind fun bt328 => ((abacistref03_Fits.f k (x1.length : Int)).bind fun t330 => (if (x0.length : Int) = (x1.length : Int) then (if t330 < 0 then (abacistlaw28_ProofTells.j1 k x0 x1 x2 x3 bt319.1 bt319.2 bt321.1 bt321.2 bt326.1 bt326.2 bt328.1 bt328.2 4 t330) else (abacistlaw28_ProofTells.j1 k x0 x1 x2 x3 bt319.1 bt319.2 bt321.1 bt321.2 bt326.1 bt326.2 bt328.1 bt328.2 0 t330)) else (abacistlaw28_ProofTells.j1 k x0 x1 x2 x3 bt319.1 bt319.2 bt321.1 bt321.2 bt326.1 bt326.2 bt328.1 bt328.2 19 t330)))))))
def abacistlaw28_ProofTells.j1 : Nat → List Int → List Int → Int → Int → Bool → Int → Bool → Int → Bool → Int → Bool → Int → Int → Int → Option (Bool)
  | 0, _, _, _, _, _, _, _, _, _, _, _, _, _, _ => none
  | k + 1, x0, x1, x2, x3, x9, x10, x11, x12, x13, x14, x15, x16, x17, x18 => if x16 = x17 then (if x17 = 0 then (abacistlaw28_ProofTells.j2 k x0 x1 x2 x3 x9 x10 x11 x12 x13 x14 x15 x17 x18 false) else (abacistlaw28_ProofTells.j2 k x0 x1 x2 x3 x9 x10 x11 x12 x13 x14 x15 x17 x18 x15)) else (abacistlaw28_ProofTells.j2 k x0 x1 x2 x3 x9 x10 x11 x12 x13 x14 x15 x17 x18 true)
def abacistlaw28_ProofTells.j2 : Nat → List Int → List Int → Int → Int → Bool → Int → Bool → Int → Bool → Int → Bool → Int → Int → Bool → Option (Bool)
  | 0, _, _, _, _, _, _, _, _, _, _, _, _, _, _ => none
  | k + 1, x0, x1, x2, x3, x9, x10, x11, x12, x13, x14, x15, x17, x18, x84 => if x84 = true then (some false) else (if x17 = 0 then (if x2 = 0 then (abacistlaw28_ProofTells.j3 k x0 x1 x2 x3 x9 x10 x11 x12 x13 x14 x15 x17 x18 false) else (abacistlaw28_ProofTells.j3 k x0 x1 x2 x3 x9 x10 x11 x12 x13 x14 x15 x17 x18 (x2 != 1))) else (abacistlaw28_ProofTells.j3 k x0 x1 x2 x3 x9 x10 x11 x12 x13 x14 x15 x17 x18 false))
def abacistlaw28_ProofTells.j3 : Nat → List Int → List Int → Int → Int → Bool → Int → Bool → Int → Bool → Int → Bool → Int → Int → Bool → Option (Bool)
  | 0, _, _, _, _, _, _, _, _, _, _, _, _, _, _ => none
  | k + 1, x0, x1, x2, x3, x9, x10, x11, x12, x13, x14, x15, x17, x18, x94 => if x94 = true then (abacistlaw28_ProofTells.j4 k x0 x1 x2 x3 x9 x10 x11 x12 x13 x14 x15 18 x18) else (abacistlaw28_ProofTells.j4 k x0 x1 x2 x3 x9 x10 x11 x12 x13 x14 x15 x17 x18)
def abacistlaw28_ProofTells.j4 : Nat → List Int → List Int → Int → Int → Bool → Int → Bool → Int → Bool → Int → Bool → Int → Int → Option (Bool)
  | 0, _, _, _, _, _, _, _, _, _, _, _, _, _ => none
  | k + 1, x0, x1, x2, x3, x9, x10, x11, x12, x13, x14, x15, x17, x18 => if x17 = 0 then (abacistlaw28_ProofTells.l0 k x0 x1 x2 x3 x9 x10 x11 x12 x13 x14 x15 x18 0 0 0 0 0) else (if x10 = x17 then (if x12 = x17 then (if x14 = x17 then (if x9 = true then (some false) else (if x11 = true then (some false) else (some (!x13)))) else (some false)) else (some false)) else (some false))
def abacistlaw28_ProofTells.l0 : Nat → List Int → List Int → Int → Int → Bool → Int → Bool → Int → Bool → Int → Bool → Int → Int → Int → Int → Int → Int → Option (Bool)
  | 0, _, _, _, _, _, _, _, _, _, _, _, _, _, _, _, _, _ => none
  | k + 1, x0, x1, x2, x3, x9, x10, x11, x12, x13, x14, x15, x18, x19, x20, x21, x22, x23 => if x23 < (x0.length : Int) then (if 0 ≤ x23 then ((abacistref02_Add.f x19 (rd x0 x23)).bind fun t332 => (if x23 < (x1.length : Int) then ((abacistref02_Add.f x20 (rd x1 x23)).bind fun t334 => (if (x0.length : Int) = 0 then (none) else (if 0 ≤ (Int.tmod (wrap64 ((x0.length : Int) - x23)) (x0.length : Int)) then (if (Int.tmod (wrap64 ((x0.length : Int) - x23)) (x0.length : Int)) < (x0.length : Int) then ((abacistref02_Mul.f k (rd x0 x23) (rd x0 (Int.tmod (wrap64 ((x0.length : Int) - x23)) (x0.length : Int)))).bind fun t337 => ((abacistref02_Add.f x21 t337).bind fun t338 => ((abacistref02_Mul.f k (rd x1 x23) (rd x1 x23)).bind fun t341 => ((abacistref02_Add.f x22 t341).bind fun t342 => (abacistlaw28_ProofTells.l0 k x0 x1 x2 x3 x9 x10 x11 x12 x13 x14 x15 x18 t332 t334 t338 t342 (wrap64 (x23 + 1))))))) else (none)) else (none)))) else (none))) else (none)) else (if x2 = 1 then ((abacistref08_Share.f k x18).bind fun t343 => ((abacistref02_Mul.f k x19 t343).bind fun t344 => (abacistlaw28_ProofTells.j6 k x0 x1 x2 x3 x9 x10 x11 x12 x13 x14 x15 x18 t344 x20 x21 x22))) else ((abacistref08_Share.f k x18).bind fun t345 => ((abacistref02_Mul.f k x20 t345).bind fun t346 => (abacistlaw28_ProofTells.j6 k x0 x1 x2 x3 x9 x10 x11 x12 x13 x14 x15 x18 x19 t346 x21 x22))))
def abacistlaw28_ProofTells.j6 : Nat → List Int → List Int → Int → Int → Bool → Int → Bool → Int → Bool → Int → Bool → Int → Int → Int → Int → Int → Option (Bool)
  | 0, _, _, _, _, _, _, _, _, _, _, _, _, _, _, _, _ => none
  | k + 1, x0, x1, x2, x3, x9, x10, x11, x12, x13, x14, x15, x18, x19, x20, x21, x22 => (abacistref07_At.f k x0 x3).bind fun t347 => ((abacistref08_Transform.f k x1 x18 (wrap64 (1 - x2))).bind fun t348 => ((abacistref07_At.f k t348 x3).bind fun t351 => (if x10 = 0 then (if x12 = 0 then (if x14 = 0 then (if (x9 == (t347 == t351)) = true then (if (x13 == (t347 == t351)) = true then (if 0 < (x1.length : Int) then ((abacistref02_Of.f (rd x1 0)).bind fun t353 => (if x19 = t353 then (if 0 < (x0.length : Int) then ((abacistref02_Of.f (rd x0 0)).bind fun t355 => (if (x11 == (x20 == t355)) = true then ((abacistref02_Mul.f k x21 (IntKind.u64.wrap ((x0.length : Int)))).bind fun t356 => (some (x15 == (t356 == x22)))) else (some false))) else (none)) else (if (x11 == false) = true then ((abacistref02_Mul.f k x21 (IntKind.u64.wrap ((x0.length : Int)))).bind fun t357 => (some (x15 == (t357 == x22)))) else (some false)))) else (none)) else (some false)) else (some false)) else (some false)) else (some false)) else (some false))))
end
def abacistlaw28_ProofTells.f (k : Nat) (l0 : List Int) (l1 : List Int) (a2 : Int) (a3 : Int) : Option (Bool) := (abacistlaw28_awake.f k).bind fun t318 => (if t318 = true then (if (l0.length : Int) > 32 then (abacistlaw28_ProofTells.j0 k l0 l1 a2 a3 true) else (abacistlaw28_ProofTells.j0 k l0 l1 a2 a3 (decide ((l1.length : Int) > 32)))) else (some false))
theorem abacistlaw28_ProofTells.mono_l : ∀ k, (∀ y0 y1 y2 y3 y4, LeO (abacistlaw28_ProofTells.j0 k y0 y1 y2 y3 y4) (abacistlaw28_ProofTells.j0 (k + 1) y0 y1 y2 y3 y4)) ∧ (∀ y0 y1 y2 y3 y4 y5 y6 y7 y8 y9 y10 y11 y12 y13, LeO (abacistlaw28_ProofTells.j1 k y0 y1 y2 y3 y4 y5 y6 y7 y8 y9 y10 y11 y12 y13) (abacistlaw28_ProofTells.j1 (k + 1) y0 y1 y2 y3 y4 y5 y6 y7 y8 y9 y10 y11 y12 y13)) ∧ (∀ y0 y1 y2 y3 y4 y5 y6 y7 y8 y9 y10 y11 y12 y13, LeO (abacistlaw28_ProofTells.j2 k y0 y1 y2 y3 y4 y5 y6 y7 y8 y9 y10 y11 y12 y13) (abacistlaw28_ProofTells.j2 (k + 1) y0 y1 y2 y3 y4 y5 y6 y7 y8 y9 y10 y11 y12 y13)) ∧ (∀ y0 y1 y2 y3 y4 y5 y6 y7 y8 y9 y10 y11 y12 y13, LeO (abacistlaw28_ProofTells.j3 k y0 y1 y2 y3 y4 y5 y6 y7 y8 y9 y10 y11 y12 y13) (abacistlaw28_ProofTells.j3 (k + 1) y0 y1 y2 y3 y4 y5 y6 y7 y8 y9 y10 y11 y12 y13)) ∧ (∀ y0 y1 y2 y3 y4 y5 y6 y7 y8 y9 y10 y11 y12, LeO (abacistlaw28_ProofTells.j4 k y0 y1 y2 y3 y4 y5 y6 y7 y8 y9 y10 y11 y12) (abacistlaw28_ProofTells.j4 (k + 1) y0 y1 y2 y3 y4 y5 y6 y7 y8 y9 y10 y11 y12)) ∧ (∀ y0 y1 y2 y3 y4 y5 y6 y7 y8 y9 y10 y11 y12 y13 y14 y15 y16, LeO (abacistlaw28_ProofTells.l0 k y0 y1 y2 y3 y4 y5 y6 y7 y8 y9 y10 y11 y12 y13 y14 y15 y16) (abacistlaw28_ProofTells.l0 (k + 1) y0 y1 y2 y3 y4 y5 y6 y7 y8 y9 y10 y11 y12 y13 y14 y15 y16)) ∧ (∀ y0 y1 y2 y3 y4 y5 y6 y7 y8 y9 y10 y11 y12 y13 y14 y15, LeO (abacistlaw28_ProofTells.j6 k y0 y1 y2 y3 y4 y5 y6 y7 y8 y9 y10 y11 y12 y13 y14 y15) (abacistlaw28_ProofTells.j6 (k + 1) y0 y1 y2 y3 y4 y5 y6 y7 y8 y9 y10 y11 y12 y13 y14 y15))
  | 0 => ⟨fun _ _ _ _ _ r h => by simp [abacistlaw28_ProofTells.j0] at h, fun _ _ _ _ _ _ _ _ _ _ _ _ _ _ r h => by simp [abacistlaw28_ProofTells.j1] at h, fun _ _ _ _ _ _ _ _ _ _ _ _ _ _ r h => by simp [abacistlaw28_ProofTells.j2] at h, fun _ _ _ _ _ _ _ _ _ _ _ _ _ _ r h => by simp [abacistlaw28_ProofTells.j3] at h, fun _ _ _ _ _ _ _ _ _ _ _ _ _ r h => by simp [abacistlaw28_ProofTells.j4] at h, fun _ _ _ _ _ _ _ _ _ _ _ _ _ _ _ _ _ r h => by simp [abacistlaw28_ProofTells.l0] at h, fun _ _ _ _ _ _ _ _ _ _ _ _ _ _ _ _ r h => by simp [abacistlaw28_ProofTells.j6] at h⟩
  | k + 1 => by
    obtain ⟨ih0, ih1, ih2, ih3, ih4, ih5, ih6⟩ := abacistlaw28_ProofTells.mono_l k
    refine ⟨?_, ?_, ?_, ?_, ?_, ?_, ?_⟩
    · as_aux_lemma =>
        intro y0 y1 y2 y3 y4
        unfold abacistlaw28_ProofTells.j0
        repeat' first
        | (with_reducible exact ih0 _ _ _ _ _)
        | (with_reducible exact ih1 _ _ _ _ _ _ _ _ _ _ _ _ _ _)
        | (with_reducible exact ih2 _ _ _ _ _ _ _ _ _ _ _ _ _ _)
        | (with_reducible exact ih3 _ _ _ _ _ _ _ _ _ _ _ _ _ _)
        | (with_reducible exact ih4 _ _ _ _ _ _ _ _ _ _ _ _ _)
        | (with_reducible exact ih5 _ _ _ _ _ _ _ _ _ _ _ _ _ _ _ _ _)
        | (with_reducible exact ih6 _ _ _ _ _ _ _ _ _ _ _ _ _ _ _ _)
        | (with_reducible exact abacistlaw28_awake.mono _)
        | (with_reducible exact abacistref02_Mul.mono _ _ _)
        | (with_reducible exact abacistref03_Fits.mono _ _)
        | (with_reducible exact abacistref07_At.mono _ _ _)
        | (with_reducible exact abacistref08_Share.mono _ _)
        | (with_reducible exact abacistref08_Transform.mono _ _ _ _)
        | (with_reducible exact proof_All.mono _ _ _ _ _)
        | (with_reducible exact proof_Ends.mono _ _ _ _)
        | (with_reducible exact proof_Fits.mono _ _ _ _ _)
        | (with_reducible exact proof_Power.mono _ _ _)
        | (with_reducible exact LeO.refl _)
        | (with_reducible exact LeO.none _)
        | (with_reducible refine LeO.ite ?_ ?_)
        | (with_reducible refine LeO.bind ?_ (fun _ => ?_))
        | exact ih0 _ _ _ _ _
        | exact ih1 _ _ _ _ _ _ _ _ _ _ _ _ _ _
        | exact ih2 _ _ _ _ _ _ _ _ _ _ _ _ _ _
        | exact ih3 _ _ _ _ _ _ _ _ _ _ _ _ _ _
        | exact ih4 _ _ _ _ _ _ _ _ _ _ _ _ _
        | exact ih5 _ _ _ _ _ _ _ _ _ _ _ _ _ _ _ _ _
        | exact ih6 _ _ _ _ _ _ _ _ _ _ _ _ _ _ _ _
        | exact abacistlaw28_awake.mono _
        | exact abacistref02_Mul.mono _ _ _
        | exact abacistref03_Fits.mono _ _
        | exact abacistref07_At.mono _ _ _
        | exact abacistref08_Share.mono _ _
        | exact abacistref08_Transform.mono _ _ _ _
        | exact proof_All.mono _ _ _ _ _
        | exact proof_Ends.mono _ _ _ _
        | exact proof_Fits.mono _ _ _ _ _
        | exact proof_Power.mono _ _ _
        | exact LeO.none _
        | refine LeO.ite ?_ ?_
        | refine LeO.bind ?_ (fun _ => ?_)
    · as_aux_lemma =>
        intro y0 y1 y2 y3 y4 y5 y6 y7 y8 y9 y10 y11 y12 y13
        unfold abacistlaw28_ProofTells.j1
        repeat' first
        | (with_reducible exact ih0 _ _ _ _ _)
        | (with_reducible exact ih1 _ _ _ _ _ _ _ _ _ _ _ _ _ _)
        | (with_reducible exact ih2 _ _ _ _ _ _ _ _ _ _ _ _ _ _)
        | (with_reducible exact ih3 _ _ _ _ _ _ _ _ _ _ _ _ _ _)
        | (with_reducible exact ih4 _ _ _ _ _ _ _ _ _ _ _ _ _)
        | (with_reducible exact ih5 _ _ _ _ _ _ _ _ _ _ _ _ _ _ _ _ _)
        | (with_reducible exact ih6 _ _ _ _ _ _ _ _ _ _ _ _ _ _ _ _)
        | (with_reducible exact abacistlaw28_awake.mono _)
        | (with_reducible exact abacistref02_Mul.mono _ _ _)
        | (with_reducible exact abacistref03_Fits.mono _ _)
        | (with_reducible exact abacistref07_At.mono _ _ _)
        | (with_reducible exact abacistref08_Share.mono _ _)
        | (with_reducible exact abacistref08_Transform.mono _ _ _ _)
        | (with_reducible exact proof_All.mono _ _ _ _ _)
        | (with_reducible exact proof_Ends.mono _ _ _ _)
        | (with_reducible exact proof_Fits.mono _ _ _ _ _)
        | (with_reducible exact proof_Power.mono _ _ _)
        | (with_reducible exact LeO.refl _)
        | (with_reducible exact LeO.none _)
        | (with_reducible refine LeO.ite ?_ ?_)
        | (with_reducible refine LeO.bind ?_ (fun _ => ?_))
        | exact ih0 _ _ _ _ _
        | exact ih1 _ _ _ _ _ _ _ _ _ _ _ _ _ _
        | exact ih2 _ _ _ _ _ _ _ _ _ _ _ _ _ _
        | exact ih3 _ _ _ _ _ _ _ _ _ _ _ _ _ _
        | exact ih4 _ _ _ _ _ _ _ _ _ _ _ _ _
        | exact ih5 _ _ _ _ _ _ _ _ _ _ _ _ _ _ _ _ _
        | exact ih6 _ _ _ _ _ _ _ _ _ _ _ _ _ _ _ _
        | exact abacistlaw28_awake.mono _
        | exact abacistref02_Mul.mono _ _ _
        | exact abacistref03_Fits.mono _ _
        | exact abacistref07_At.mono _ _ _
        | exact abacistref08_Share.mono _ _
        | exact abacistref08_Transform.mono _ _ _ _
        | exact proof_All.mono _ _ _ _ _
        | exact proof_Ends.mono _ _ _ _
        | exact proof_Fits.mono _ _ _ _ _
        | exact proof_Power.mono _ _ _
        | exact LeO.none _
        | refine LeO.ite ?_ ?_
        | refine LeO.bind ?_ (fun _ => ?_)
    · as_aux_lemma =>
        intro y0 y1 y2 y3 y4 y5 y6 y7 y8 y9 y10 y11 y12 y13
        unfold abacistlaw28_ProofTells.j2
        repeat' first
        | (with_reducible exact ih0 _ _ _ _ _)
        | (with_reducible exact ih1 _ _ _ _ _ _ _ _ _ _ _ _ _ _)
        | (with_reducible exact ih2 _ _ _ _ _ _ _ _ _ _ _ _ _ _)
        | (with_reducible exact ih3 _ _ _ _ _ _ _ _ _ _ _ _ _ _)
        | (with_reducible exact ih4 _ _ _ _ _ _ _ _ _ _ _ _ _)
        | (with_reducible exact ih5 _ _ _ _ _ _ _ _ _ _ _ _ _ _ _ _ _)
        | (with_reducible exact ih6 _ _ _ _ _ _ _ _ _ _ _ _ _ _ _ _)
        | (with_reducible exact abacistlaw28_awake.mono _)
        | (with_reducible exact abacistref02_Mul.mono _ _ _)
        | (with_reducible exact abacistref03_Fits.mono _ _)
        | (with_reducible exact abacistref07_At.mono _ _ _)
        | (with_reducible exact abacistref08_Share.mono _ _)
        | (with_reducible exact abacistref08_Transform.mono _ _ _ _)
        | (with_reducible exact proof_All.mono _ _ _ _ _)
        | (with_reducible exact proof_Ends.mono _ _ _ _)
        | (with_reducible exact proof_Fits.mono _ _ _ _ _)
        | (with_reducible exact proof_Power.mono _ _ _)
        | (with_reducible exact LeO.refl _)
        | (with_reducible exact LeO.none _)
        | (with_reducible refine LeO.ite ?_ ?_)
        | (with_reducible refine LeO.bind ?_ (fun _ => ?_))
        | exact ih0 _ _ _ _ _
        | exact ih1 _ _ _ _ _ _ _ _ _ _ _ _ _ _
        | exact ih2 _ _ _ _ _ _ _ _ _ _ _ _ _ _
        | exact ih3 _ _ _ _ _ _ _ _ _ _ _ _ _ _
        | exact ih4 _ _ _ _ _ _ _ _ _ _ _ _ _
        | exact ih5 _ _ _ _ _ _ _ _ _ _ _ _ _ _ _ _ _
        | exact ih6 _ _ _ _ _ _ _ _ _ _ _ _ _ _ _ _
        | exact abacistlaw28_awake.mono _
        | exact abacistref02_Mul.mono _ _ _
        | exact abacistref03_Fits.mono _ _
        | exact abacistref07_At.mono _ _ _
        | exact abacistref08_Share.mono _ _
        | exact abacistref08_Transform.mono _ _ _ _
        | exact proof_All.mono _ _ _ _ _
        | exact proof_Ends.mono _ _ _ _
        | exact proof_Fits.mono _ _ _ _ _
        | exact proof_Power.mono _ _ _
        | exact LeO.none _
        | refine LeO.ite ?_ ?_
        | refine LeO.bind ?_ (fun _ => ?_)
    · as_aux_lemma =>
        intro y0 y1 y2 y3 y4 y5 y6 y7 y8 y9 y10 y11 y12 y13
        unfold abacistlaw28_ProofTells.j3
        repeat' first
        | (with_reducible exact ih0 _ _ _ _ _)
        | (with_reducible exact ih1 _ _ _ _ _ _ _ _ _ _ _ _ _ _)
        | (with_reducible exact ih2 _ _ _ _ _ _ _ _ _ _ _ _ _ _)
        | (with_reducible exact ih3 _ _ _ _ _ _ _ _ _ _ _ _ _ _)
        | (with_reducible exact ih4 _ _ _ _ _ _ _ _ _ _ _ _ _)
        | (with_reducible exact ih5 _ _ _ _ _ _ _ _ _ _ _ _ _ _ _ _ _)
        | (with_reducible exact ih6 _ _ _ _ _ _ _ _ _ _ _ _ _ _ _ _)
        | (with_reducible exact abacistlaw28_awake.mono _)
        | (with_reducible exact abacistref02_Mul.mono _ _ _)
        | (with_reducible exact abacistref03_Fits.mono _ _)
        | (with_reducible exact abacistref07_At.mono _ _ _)
        | (with_reducible exact abacistref08_Share.mono _ _)
        | (with_reducible exact abacistref08_Transform.mono _ _ _ _)
        | (with_reducible exact proof_All.mono _ _ _ _ _)
        | (with_reducible exact proof_Ends.mono _ _ _ _)
        | (with_reducible exact proof_Fits.mono _ _ _ _ _)
        | (with_reducible exact proof_Power.mono _ _ _)
        | (with_reducible exact LeO.refl _)
        | (with_reducible exact LeO.none _)
        | (with_reducible refine LeO.ite ?_ ?_)
        | (with_reducible refine LeO.bind ?_ (fun _ => ?_))
        | exact ih0 _ _ _ _ _
        | exact ih1 _ _ _ _ _ _ _ _ _ _ _ _ _ _
        | exact ih2 _ _ _ _ _ _ _ _ _ _ _ _ _ _
        | exact ih3 _ _ _ _ _ _ _ _ _ _ _ _ _ _
        | exact ih4 _ _ _ _ _ _ _ _ _ _ _ _ _
        | exact ih5 _ _ _ _ _ _ _ _ _ _ _ _ _ _ _ _ _
        | exact ih6 _ _ _ _ _ _ _ _ _ _ _ _ _ _ _ _
        | exact abacistlaw28_awake.mono _
        | exact abacistref02_Mul.mono _ _ _
        | exact abacistref03_Fits.mono _ _
        | exact abacistref07_At.mono _ _ _
        | exact abacistref08_Share.mono _ _
        | exact abacistref08_Transform.mono _ _ _ _
        | exact proof_All.mono _ _ _ _ _
        | exact proof_Ends.mono _ _ _ _
        | exact proof_Fits.mono _ _ _ _ _
        | exact proof_Power.mono _ _ _
        | exact LeO.none _
        | refine LeO.ite ?_ ?_
        | refine LeO.bind ?_ (fun _ => ?_)
    · as_aux_lemma =>
        intro y0 y1 y2 y3 y4 y5 y6 y7 y8 y9 y10 y11 y12
        unfold abacistlaw28_ProofTells.j4
        repeat' first
        | (with_reducible exact ih0 _ _ _ _ _)
        | (with_reducible exact ih1 _ _ _ _ _ _ _ _ _ _ _ _ _ _)
        | (with_reducible exact ih2 _ _ _ _ _ _ _ _ _ _ _ _ _ _)
        | (with_reducible exact ih3 _ _ _ _ _ _ _ _ _ _ _ _ _ _)
        | (with_reducible exact ih4 _ _ _ _ _ _ _ _ _ _ _ _ _)
        | (with_reducible exact ih5 _ _ _ _ _ _ _ _ _ _ _ _ _ _ _ _ _)
        | (with_reducible exact ih6 _ _ _ _ _ _ _ _ _ _ _ _ _ _ _ _)
        | (with_reducible exact abacistlaw28_awake.mono _)
        | (with_reducible exact abacistref02_Mul.mono _ _ _)
        | (with_reducible exact abacistref03_Fits.mono _ _)
        | (with_reducible exact abacistref07_At.mono _ _ _)
        | (with_reducible exact abacistref08_Share.mono _ _)
        | (with_reducible exact abacistref08_Transform.mono _ _ _ _)
        | (with_reducible exact proof_All.mono _ _ _ _ _)
        | (with_reducible exact proof_Ends.mono _ _ _ _)
        | (with_reducible exact proof_Fits.mono _ _ _ _ _)
        | (with_reducible exact proof_Power.mono _ _ _)
        | (with_reducible exact LeO.refl _)
        | (with_reducible exact LeO.none _)
        | (with_reducible refine LeO.ite ?_ ?_)
        | (with_reducible refine LeO.bind ?_ (fun _ => ?_))
        | exact ih0 _ _ _ _ _
        | exact ih1 _ _ _ _ _ _ _ _ _ _ _ _ _ _
        | exact ih2 _ _ _ _ _ _ _ _ _ _ _ _ _ _
        | exact ih3 _ _ _ _ _ _ _ _ _ _ _ _ _ _
        | exact ih4 _ _ _ _ _ _ _ _ _ _ _ _ _
        | exact ih5 _ _ _ _ _ _ _ _ _ _ _ _ _ _ _ _ _
        | exact ih6 _ _ _ _ _ _ _ _ _ _ _ _ _ _ _ _
        | exact abacistlaw28_awake.mono _
        | exact abacistref02_Mul.mono _ _ _
        | exact abacistref03_Fits.mono _ _
        | exact abacistref07_At.mono _ _ _
        | exact abacistref08_Share.mono _ _
        | exact abacistref08_Transform.mono _ _ _ _
        | exact proof_All.mono _ _ _ _ _
        | exact proof_Ends.mono _ _ _ _
        | exact proof_Fits.mono _ _ _ _ _
        | exact proof_Power.mono _ _ _
        | exact LeO.none _
        | refine LeO.ite ?_ ?_
        | refine LeO.bind ?_ (fun _ => ?_)
    · as_aux_lemma =>
        intro y0 y1 y2 y3 y4 y5 y6 y7 y8 y9 y10 y11 y12 y13 y14 y15 y16
        unfold abacistlaw28_ProofTells.l0
        repeat' first
        | (with_reducible exact ih0 _ _ _ _ _)
        | (with_reducible exact ih1 _ _ _ _ _ _ _ _ _ _ _ _ _ _)
        | (with_reducible exact ih2 _ _ _ _ _ _ _ _ _ _ _ _ _ _)
        | (with_reducible exact ih3 _ _ _ _ _ _ _ _ _ _ _ _ _ _)
        | (with_reducible exact ih4 _ _ _ _ _ _ _ _ _ _ _ _ _)
        | (with_reducible exact ih5 _ _ _ _ _ _ _ _ _ _ _ _ _ _ _ _ _)
        | (with_reducible exact ih6 _ _ _ _ _ _ _ _ _ _ _ _ _ _ _ _)
        | (with_reducible exact abacistlaw28_awake.mono _)
        | (with_reducible exact abacistref02_Mul.mono _ _ _)
        | (with_reducible exact abacistref03_Fits.mono _ _)
        | (with_reducible exact abacistref07_At.mono _ _ _)
        | (with_reducible exact abacistref08_Share.mono _ _)
        | (with_reducible exact abacistref08_Transform.mono _ _ _ _)
        | (with_reducible exact proof_All.mono _ _ _ _ _)
        | (with_reducible exact proof_Ends.mono _ _ _ _)
        | (with_reducible exact proof_Fits.mono _ _ _ _ _)
        | (with_reducible exact proof_Power.mono _ _ _)
        | (with_reducible exact LeO.refl _)
        | (with_reducible exact LeO.none _)
        | (with_reducible refine LeO.ite ?_ ?_)
        | (with_reducible refine LeO.bind ?_ (fun _ => ?_))
        | exact ih0 _ _ _ _ _
        | exact ih1 _ _ _ _ _ _ _ _ _ _ _ _ _ _
        | exact ih2 _ _ _ _ _ _ _ _ _ _ _ _ _ _
        | exact ih3 _ _ _ _ _ _ _ _ _ _ _ _ _ _
        | exact ih4 _ _ _ _ _ _ _ _ _ _ _ _ _
        | exact ih5 _ _ _ _ _ _ _ _ _ _ _ _ _ _ _ _ _
        | exact ih6 _ _ _ _ _ _ _ _ _ _ _ _ _ _ _ _
        | exact abacistlaw28_awake.mono _
        | exact abacistref02_Mul.mono _ _ _
        | exact abacistref03_Fits.mono _ _
        | exact abacistref07_At.mono _ _ _
        | exact abacistref08_Share.mono _ _
        | exact abacistref08_Transform.mono _ _ _ _
        | exact proof_All.mono _ _ _ _ _
        | exact proof_Ends.mono _ _ _ _
        | exact proof_Fits.mono _ _ _ _ _
        | exact proof_Power.mono _ _ _
        | exact LeO.none _
        | refine LeO.ite ?_ ?_
        | refine LeO.bind ?_ (fun _ => ?_)
    · as_aux_lemma =>
        intro y0 y1 y2 y3 y4 y5 y6 y7 y8 y9 y10 y11 y12 y13 y14 y15
        unfold abacistlaw28_ProofTells.j6
        repeat' first
        | (with_reducible exact ih0 _ _ _ _ _)
        | (with_reducible exact ih1 _ _ _ _ _ _ _ _ _ _ _ _ _ _)
        | (with_reducible exact ih2 _ _ _ _ _ _ _ _ _ _ _ _ _ _)
        | (with_reducible exact ih3 _ _ _ _ _ _ _ _ _ _ _ _ _ _)
        | (with_reducible exact ih4 _ _ _ _ _ _ _ _ _ _ _ _ _)
        | (with_reducible exact ih5 _ _ _ _ _ _ _ _ _ _ _ _ _ _ _ _ _)
        | (with_reducible exact ih6 _ _ _ _ _ _ _ _ _ _ _ _ _ _ _ _)
        | (with_reducible exact abacistlaw28_awake.mono _)
        | (with_reducible exact abacistref02_Mul.mono _ _ _)
        | (with_reducible exact abacistref03_Fits.mono _ _)
        | (with_reducible exact abacistref07_At.mono _ _ _)
        | (with_reducible exact abacistref08_Share.mono _ _)
        | (with_reducible exact abacistref08_Transform.mono _ _ _ _)
        | (with_reducible exact proof_All.mono _ _ _ _ _)
        | (with_reducible exact proof_Ends.mono _ _ _ _)
        | (with_reducible exact proof_Fits.mono _ _ _ _ _)
        | (with_reducible exact proof_Power.mono _ _ _)
        | (with_reducible exact LeO.refl _)
        | (with_reducible exact LeO.none _)
        | (with_reducible refine LeO.ite ?_ ?_)
        | (with_reducible refine LeO.bind ?_ (fun _ => ?_))
        | exact ih0 _ _ _ _ _
        | exact ih1 _ _ _ _ _ _ _ _ _ _ _ _ _ _
        | exact ih2 _ _ _ _ _ _ _ _ _ _ _ _ _ _
        | exact ih3 _ _ _ _ _ _ _ _ _ _ _ _ _ _
        | exact ih4 _ _ _ _ _ _ _ _ _ _ _ _ _
        | exact ih5 _ _ _ _ _ _ _ _ _ _ _ _ _ _ _ _ _
        | exact ih6 _ _ _ _ _ _ _ _ _ _ _ _ _ _ _ _
        | exact abacistlaw28_awake.mono _
        | exact abacistref02_Mul.mono _ _ _
        | exact abacistref03_Fits.mono _ _
        | exact abacistref07_At.mono _ _ _
        | exact abacistref08_Share.mono _ _
        | exact abacistref08_Transform.mono _ _ _ _
        | exact proof_All.mono _ _ _ _ _
        | exact proof_Ends.mono _ _ _ _
        | exact proof_Fits.mono _ _ _ _ _
        | exact proof_Power.mono _ _ _
        | exact LeO.none _
        | refine LeO.ite ?_ ?_
        | refine LeO.bind ?_ (fun _ => ?_)
theorem abacistlaw28_ProofTells.mono : ∀ a0 a1 a2 a3 k, LeO (abacistlaw28_ProofTells.f k a0 a1 a2 a3) (abacistlaw28_ProofTells.f (k + 1) a0 a1 a2 a3) := by
  intro a0 a1 a2 a3 k
  obtain ⟨ih0, ih1, ih2, ih3, ih4, ih5, ih6⟩ := abacistlaw28_ProofTells.mono_l k
  unfold abacistlaw28_ProofTells.f
  repeat' first
      | (with_reducible exact ih0 _ _ _ _ _)
      | (with_reducible exact ih1 _ _ _ _ _ _ _ _ _ _ _ _ _ _)
      | (with_reducible exact ih2 _ _ _ _ _ _ _ _ _ _ _ _ _ _)
      | (with_reducible exact ih3 _ _ _ _ _ _ _ _ _ _ _ _ _ _)
      | (with_reducible exact ih4 _ _ _ _ _ _ _ _ _ _ _ _ _)
      | (with_reducible exact ih5 _ _ _ _ _ _ _ _ _ _ _ _ _ _ _ _ _)
      | (with_reducible exact ih6 _ _ _ _ _ _ _ _ _ _ _ _ _ _ _ _)
      | (with_reducible exact abacistlaw28_awake.mono _)
      | (with_reducible exact abacistref02_Mul.mono _ _ _)
      | (with_reducible exact abacistref03_Fits.mono _ _)
      | (with_reducible exact abacistref07_At.mono _ _ _)
      | (with_reducible exact abacistref08_Share.mono _ _)
      | (with_reducible exact abacistref08_Transform.mono _ _ _ _)
      | (with_reducible exact proof_All.mono _ _ _ _ _)
      | (with_reducible exact proof_Ends.mono _ _ _ _)
      | (with_reducible exact proof_Fits.mono _ _ _ _ _)
      | (with_reducible exact proof_Power.mono _ _ _)
      | (with_reducible exact LeO.refl _)
      | (with_reducible exact LeO.none _)
      | (with_reducible refine LeO.ite ?_ ?_)
      | (with_reducible refine LeO.bind ?_ (fun _ => ?_))
      | exact ih0 _ _ _ _ _
      | exact ih1 _ _ _ _ _ _ _ _ _ _ _ _ _ _
      | exact ih2 _ _ _ _ _ _ _ _ _ _ _ _ _ _
      | exact ih3 _ _ _ _ _ _ _ _ _ _ _ _ _ _
      | exact ih4 _ _ _ _ _ _ _ _ _ _ _ _ _
      | exact ih5 _ _ _ _ _ _ _ _ _ _ _ _ _ _ _ _ _
      | exact ih6 _ _ _ _ _ _ _ _ _ _ _ _ _ _ _ _
      | exact abacistlaw28_awake.mono _
      | exact abacistref02_Mul.mono _ _ _
      | exact abacistref03_Fits.mono _ _
      | exact abacistref07_At.mono _ _ _
      | exact abacistref08_Share.mono _ _
      | exact abacistref08_Transform.mono _ _ _ _
      | exact proof_All.mono _ _ _ _ _
      | exact proof_Ends.mono _ _ _ _
      | exact proof_Fits.mono _ _ _ _ _
      | exact proof_Power.mono _ _ _
      | exact LeO.none _
      | refine LeO.ite ?_ ?_
      | refine LeO.bind ?_ (fun _ => ?_)
set_option maxHeartbeats 80000000 in
set_option maxRecDepth 100000 in
theorem abacistlaw28_ProofTells.calls (k : Nat) (A0 : Option Addr) (c0 : Nat) (l0 : List Int) (A1 : Option Addr) (c1 : Nat) (l1 : List Int) (a2 : Int) (a3 : Int) (r : Bool) (hr_ : Aside0 (r = true)) (w : World) (hr0 : Kd.C (Kd.int .u64) w A0 l0.length l0) (hc0 : l0.length ≤ c0) (hr1 : Kd.C (Kd.int .u64) w A1 l1.length l1) (hc1 : l1.length ≤ c1) (hG : Aside0 (TzTab w)) (h : abacistlaw28_ProofTells.f k l0 l1 a2 a3 = some r) :
    Calls Tryd.prog 4 #[.slice A0 l0.length c0, .slice A1 l1.length c1, .int .i64 a2, .int .u64 a3] w fun e w' => e = .returned (.bool r) ∧ Below w.heap.size w w' := by
  have HR0 := Aside0.mk hr0
  have HC0 := Aside0.mk hc0
  clear hr0 hc0
  have HR1 := Aside0.mk hr1
  have HC1 := Aside0.mk hc1
  clear hr1 hc1
  have HB := Aside0.mk (Below.refl w.heap.size w)
  have H : ((abacistlaw28_awake.f k).bind fun t318 => (if t318 = true then (if (l0.length : Int) > 32 then (abacistlaw28_ProofTells.j0 k l0 l1 a2 a3 true) else (abacistlaw28_ProofTells.j0 k l0 l1 a2 a3 (decide ((l1.length : Int) > 32)))) else (some false))) = some r := h
  clear h
  replace H := Option.bind_eq_some_iff.mp H
  obtain ⟨t318, A50, H⟩ := H
  replace H : (if t318 = true then (if (l0.length : Int) > 32 then (abacistlaw28_ProofTells.j0 k l0 l1 a2 a3 true) else (abacistlaw28_ProofTells.j0 k l0 l1 a2 a3 (decide ((l1.length : Int) > 32)))) else (some false)) = some r := H
  have A5 := Aside0.mk A50
  clear A50
  by_cases c6 : t318 = true
  · as_aux_lemma =>
      subst c6
      have H1 : (if (l0.length : Int) > 32 then (abacistlaw28_ProofTells.j0 k l0 l1 a2 a3 true) else (abacistlaw28_ProofTells.j0 k l0 l1 a2 a3 (decide ((l1.length : Int) > 32)))) = some r := by rw [if_pos rfl] at H; exact H
      clear H
      have H := H1
      clear H1
      have HC7 := Aside0.mk H
      clear H
      go_enter Tryd.func4, Tryd.ntmps4
      go_upto_region 3 with (first | (go_at_call 5; (with_reducible refine (abacistlaw28_awake.calls k  true _ ?sideG A5.out).mono ?_); (case sideG => first | exact hG | exact ⟨hG.out⟩ | exact ⟨hG.out.below (by repeat (first | (with_reducible first | exact HB.out | apply below_alloc | apply pw_below_drewN | apply below_drew1) | exact HB.out))⟩); rintro e w8 ⟨rfl, hb⟩; have n0_ := Aside0.mk (below_step (by repeat (first | (with_reducible first | exact HB.out | apply below_alloc | apply pw_below_drewN | apply below_drew1) | exact HB.out)) hb); clear HB; have HB := n0_; clear n0_; (try clear hb); (try clear hb2); (try clear hk); (try clear hi)))
      repeat (go_quiet (first | (go_at_call 5; (with_reducible refine (abacistlaw28_awake.calls k  true _ ?sideG A5.out).mono ?_); (case sideG => first | exact hG | exact ⟨hG.out⟩ | exact ⟨hG.out.below (by repeat (first | (with_reducible first | exact HB.out | apply below_alloc | apply pw_below_drewN | apply below_drew1) | exact HB.out))⟩); rintro e w8 ⟨rfl, hb⟩; have n0_ := Aside0.mk (below_step (by repeat (first | (with_reducible first | exact HB.out | apply below_alloc | apply pw_below_drewN | apply below_drew1) | exact HB.out)) hb); clear HB; have HB := n0_; clear n0_; (try clear hb); (try clear hb2); (try clear hk); (try clear hi))); go_upto_region 3 with (first | (go_at_call 5; (with_reducible refine (abacistlaw28_awake.calls k  true _ ?sideG A5.out).mono ?_); (case sideG => first | exact hG | exact ⟨hG.out⟩ | exact ⟨hG.out.below (by repeat (first | (with_reducible first | exact HB.out | apply below_alloc | apply pw_below_drewN | apply below_drew1) | exact HB.out))⟩); rintro e w8 ⟨rfl, hb⟩; have n0_ := Aside0.mk (below_step (by repeat (first | (with_reducible first | exact HB.out | apply below_alloc | apply pw_below_drewN | apply below_drew1) | exact HB.out)) hb); clear HB; have HB := n0_; clear n0_; (try clear hb); (try clear hb2); (try clear hk); (try clear hi))))
      (try simp only [Act.put, List.setIfInBounds_toArray, List.set_cons_zero, List.set_cons_succ])
      go_cut [34] (fun v34 wc => ∃ (kq : Nat) (x34_6 : Bool), v34 = .bool x34_6 ∧ Aside0 (abacistlaw28_ProofTells.j0 kq l0 l1 a2 a3 x34_6 = some r) ∧ Aside0 (kq ≤ k) ∧ Aside0 (Below w.heap.size w wc))
      case first =>
        have H := HC7.out
        clear HC7
        by_cases c9 : (l0.length : Int) > 32
        · rw [if_pos c9] at H
          have c9b0 : decide (32 < (l0.length : Int)) = true := decide_eq_true c9
          have c9b1 : decide (32 < l0.length) = true := decide_eq_true (by omega)
          clear c9
          (first | rw [c9b0] | (simp only [i64_w, i32_w]; rw [c9b0]) | skip)
          have H' := Aside0.mk H
          clear H
          go_wp2
          repeat (go_quiet (fail); try go_wp2)
          go_meet
          case rel => exact ⟨_, (true), (by first | rfl | (simp; done) | (simp [*]; done)), H', ⟨by first | omega | exact Nat.le_refl _⟩, ⟨by repeat (first | (with_reducible first | exact HB.out | apply below_alloc | apply pw_below_drewN | apply below_drew1) | exact HB.out)⟩⟩
        · rw [if_neg c9] at H
          have c9b0 : decide (32 < (l0.length : Int)) = false := decide_eq_false c9
          have c9b1 : decide (32 < l0.length) = false := decide_eq_false (by omega)
          clear c9
          (first | rw [c9b0] | (simp only [i64_w, i32_w]; rw [c9b0]) | skip)
          have H' := Aside0.mk H
          clear H
          go_wp2
          repeat (go_quiet (fail); try go_wp2)
          go_meet
          case rel => exact ⟨_, (decide ((l1.length : Int) > 32)), (by first | rfl | (simp; done) | (simp [*]; done)), H', ⟨by first | omega | exact Nat.le_refl _⟩, ⟨by repeat (first | (with_reducible first | exact HB.out | apply below_alloc | apply pw_below_drewN | apply below_drew1) | exact HB.out)⟩⟩
      case rest =>
        clear HC7
        try clear c1
        try clear p2
        try clear c4
        try clear c6
        try clear c9
        try clear c9b0
        try clear c9b1
        obtain ⟨kq, x34_6, rfl, HA, HJ6, HB⟩ := hcut
        cases kq with
        | zero => exact absurd HA.out (by simp [abacistlaw28_ProofTells.j0])
        | succ kj6 =>
          have H := HA.out
          clear HA
          simp only [abacistlaw28_ProofTells.j0] at H
          by_cases c10 : x34_6 = true
          · subst c10
            have H1 : (some true) = some r := by rw [if_pos rfl] at H; exact H
            clear H
            have H := H1
            clear H1
            obtain rfl := Option.some.inj H
            go_wp2
            repeat (go_quiet (fail); try go_wp2)
            go_ret
            exact ⟨by first | rfl | (simp [errW_none, errW_some] <;> rfl) | (simp [*, errW_none, errW_some] <;> rfl), by repeat (first | (with_reducible first | exact HB.out | apply below_alloc | apply pw_below_drewN | apply below_drew1) | exact HB.out)⟩
          · as_aux_lemma =>
              replace c10 := Bool.eq_false_iff.mpr c10
              subst c10
              have H1 : ((proof_Fits.f kj6 l0 l1 a2 a3).bind fun bt319 => ((proof_Ends.f kj6 l0 l1 a2).bind fun bt321 => ((proof_All.f kj6 l0 l1 a2 (([a3] : List Int))).bind fun bt326 => ((proof_Power.f kj6 l0 l1).bind fun bt328 => ((abacistref03_Fits.f kj6 (l1.length : Int)).bind fun t330 => (if (l0.length : Int) = (l1.length : Int) then (if t330 < 0 then (abacistlaw28_ProofTells.j1 kj6 l0 l1 a2 a3 bt319.1 bt319.2 bt321.1 bt321.2 bt326.1 bt326.2 bt328.1 bt328.2 4 t330) else (abacistlaw28_ProofTells.j1 kj6 l0 l1 a2 a3 bt319.1 bt319.2 bt321.1 bt321.2 bt326.1 bt326.2 bt328.1 bt328.2 0 t330)) else (abacistlaw28_ProofTells.j1 kj6 l0 l1 a2 a3 bt319.1 bt319.2 bt321.1 bt321.2 bt326.1 bt326.2 bt328.1 bt328.2 19 t330))))))) = some r := by rw [if_neg (show ¬ (false = true) by decide)] at H; exact H
              clear H
              have H := H1
              clear H1
              replace H := Option.bind_eq_some_iff.mp H
              obtain ⟨⟨t319, t320⟩, A110, H⟩ := H
              replace H : ((proof_Ends.f kj6 l0 l1 a2).bind fun bt321 => ((proof_All.f kj6 l0 l1 a2 (([a3] : List Int))).bind fun bt326 => ((proof_Power.f kj6 l0 l1).bind fun bt328 => ((abacistref03_Fits.f kj6 (l1.length : Int)).bind fun t330 => (if (l0.length : Int) = (l1.length : Int) then (if t330 < 0 then (abacistlaw28_ProofTells.j1 kj6 l0 l1 a2 a3 t319 t320 bt321.1 bt321.2 bt326.1 bt326.2 bt328.1 bt328.2 4 t330) else (abacistlaw28_ProofTells.j1 kj6 l0 l1 a2 a3 t319 t320 bt321.1 bt321.2 bt326.1 bt326.2 bt328.1 bt328.2 0 t330)) else (abacistlaw28_ProofTells.j1 kj6 l0 l1 a2 a3 t319 t320 bt321.1 bt321.2 bt326.1 bt326.2 bt328.1 bt328.2 19 t330)))))) = some r := H
              have A11 := Aside0.mk A110
              clear A110
              replace H := Option.bind_eq_some_iff.mp H
              obtain ⟨⟨t321, t322⟩, A120, H⟩ := H
              replace H : ((proof_All.f kj6 l0 l1 a2 (([a3] : List Int))).bind fun bt326 => ((proof_Power.f kj6 l0 l1).bind fun bt328 => ((abacistref03_Fits.f kj6 (l1.length : Int)).bind fun t330 => (if (l0.length : Int) = (l1.length : Int) then (if t330 < 0 then (abacistlaw28_ProofTells.j1 kj6 l0 l1 a2 a3 t319 t320 t321 t322 bt326.1 bt326.2 bt328.1 bt328.2 4 t330) else (abacistlaw28_ProofTells.j1 kj6 l0 l1 a2 a3 t319 t320 t321 t322 bt326.1 bt326.2 bt328.1 bt328.2 0 t330)) else (abacistlaw28_ProofTells.j1 kj6 l0 l1 a2 a3 t319 t320 t321 t322 bt326.1 bt326.2 bt328.1 bt328.2 19 t330))))) = some r := H
              have A12 := Aside0.mk A120
              clear A120
              obtain ⟨y323, hy323⟩ : ∃ y_ : List Int, y_ = (([a3] : List Int)) := ⟨_, rfl⟩
              replace H : ((proof_All.f kj6 l0 l1 a2 y323).bind fun bt326 => ((proof_Power.f kj6 l0 l1).bind fun bt328 => ((abacistref03_Fits.f kj6 (l1.length : Int)).bind fun t330 => (if (l0.length : Int) = (l1.length : Int) then (if t330 < 0 then (abacistlaw28_ProofTells.j1 kj6 l0 l1 a2 a3 t319 t320 t321 t322 bt326.1 bt326.2 bt328.1 bt328.2 4 t330) else (abacistlaw28_ProofTells.j1 kj6 l0 l1 a2 a3 t319 t320 t321 t322 bt326.1 bt326.2 bt328.1 bt328.2 0 t330)) else (abacistlaw28_ProofTells.j1 kj6 l0 l1 a2 a3 t319 t320 t321 t322 bt326.1 bt326.2 bt328.1 bt328.2 19 t330))))) = some r := by first | (rw [hy323]; with_reducible exact H) | (have H2_ := (Option.bind_some _ _).symm.trans H; rw [hy323]; with_reducible exact H2_) | (have H2_ := (Option.bind_some _ _).symm.trans H; with_reducible exact H2_) | with_reducible exact H | (rw [hy323]; exact H) | exact H
              have Ny323 := Aside0.mk hy323
              clear hy323
              replace H := Option.bind_eq_some_iff.mp H
              obtain ⟨⟨t326, t327⟩, A130, H⟩ := H
              replace H : ((proof_Power.f kj6 l0 l1).bind fun bt328 => ((abacistref03_Fits.f kj6 (l1.length : Int)).bind fun t330 => (if (l0.length : Int) = (l1.length : Int) then (if t330 < 0 then (abacistlaw28_ProofTells.j1 kj6 l0 l1 a2 a3 t319 t320 t321 t322 t326 t327 bt328.1 bt328.2 4 t330) else (abacistlaw28_ProofTells.j1 kj6 l0 l1 a2 a3 t319 t320 t321 t322 t326 t327 bt328.1 bt328.2 0 t330)) else (abacistlaw28_ProofTells.j1 kj6 l0 l1 a2 a3 t319 t320 t321 t322 t326 t327 bt328.1 bt328.2 19 t330)))) = some r := H
              have A13 := Aside0.mk A130
              clear A130
              replace H := Option.bind_eq_some_iff.mp H
              obtain ⟨⟨t328, t329⟩, A140, H⟩ := H
              replace H : ((abacistref03_Fits.f kj6 (l1.length : Int)).bind fun t330 => (if (l0.length : Int) = (l1.length : Int) then (if t330 < 0 then (abacistlaw28_ProofTells.j1 kj6 l0 l1 a2 a3 t319 t320 t321 t322 t326 t327 t328 t329 4 t330) else (abacistlaw28_ProofTells.j1 kj6 l0 l1 a2 a3 t319 t320 t321 t322 t326 t327 t328 t329 0 t330)) else (abacistlaw28_ProofTells.j1 kj6 l0 l1 a2 a3 t319 t320 t321 t322 t326 t327 t328 t329 19 t330))) = some r := H
              have A14 := Aside0.mk A140
              clear A140
              replace H := Option.bind_eq_some_iff.mp H
              obtain ⟨t330, A150, H⟩ := H
              replace H : (if (l0.length : Int) = (l1.length : Int) then (if t330 < 0 then (abacistlaw28_ProofTells.j1 kj6 l0 l1 a2 a3 t319 t320 t321 t322 t326 t327 t328 t329 4 t330) else (abacistlaw28_ProofTells.j1 kj6 l0 l1 a2 a3 t319 t320 t321 t322 t326 t327 t328 t329 0 t330)) else (abacistlaw28_ProofTells.j1 kj6 l0 l1 a2 a3 t319 t320 t321 t322 t326 t327 t328 t329 19 t330)) = some r := H
              have A15 := Aside0.mk A150
              clear A150
              have HC16 := Aside0.mk H
              clear H
              go_upto_if 72 with (first | (go_at_call 7; (with_reducible refine (proof_Fits.calls kj6 _ _ l0 _ _ l1 a2 a3 t319 t320 _ ?side1 ?side2 ?side3 ?side4 ?sideG A11.out).mono ?_); (case sideG => first | exact hG | exact ⟨hG.out⟩ | exact ⟨hG.out.below (by repeat (first | (with_reducible first | exact HB.out | apply below_alloc | apply pw_below_drewN | apply below_drew1) | exact HB.out))⟩); (case side1 => repeat (first | exact (Kd.C_below HR0.out HB.out) | (with_reducible refine Kd.C_alloc ?_ _) | (with_reducible refine Kd.C_drewN ?_ _) | (with_reducible refine Kd.C_drew ?_))); (case side2 => exact HC0.out); (case side3 => repeat (first | exact (Kd.C_below HR1.out HB.out) | (with_reducible refine Kd.C_alloc ?_ _) | (with_reducible refine Kd.C_drewN ?_ _) | (with_reducible refine Kd.C_drew ?_))); (case side4 => exact HC1.out); rintro e w17 ⟨rfl, hb⟩; have n0_ := Aside0.mk (below_step (by repeat (first | (with_reducible first | exact HB.out | apply below_alloc | apply pw_below_drewN | apply below_drew1) | exact HB.out)) hb); clear HB; have HB := n0_; clear n0_; (try clear hb); (try clear hb2); (try clear hk); (try clear hi)) | (go_at_call 12; (with_reducible refine (proof_Ends.calls kj6 _ _ l0 _ _ l1 a2 t321 t322 _ ?side1 ?side2 ?side3 ?side4 ?sideG A12.out).mono ?_); (case sideG => first | exact hG | exact ⟨hG.out⟩ | exact ⟨hG.out.below (by repeat (first | (with_reducible first | exact HB.out | apply below_alloc | apply pw_below_drewN | apply below_drew1) | exact HB.out))⟩); (case side1 => repeat (first | exact (Kd.C_below HR0.out HB.out) | (with_reducible refine Kd.C_alloc ?_ _) | (with_reducible refine Kd.C_drewN ?_ _) | (with_reducible refine Kd.C_drew ?_))); (case side2 => exact HC0.out); (case side3 => repeat (first | exact (Kd.C_below HR1.out HB.out) | (with_reducible refine Kd.C_alloc ?_ _) | (with_reducible refine Kd.C_drewN ?_ _) | (with_reducible refine Kd.C_drew ?_))); (case side4 => exact HC1.out); rintro e w18 ⟨rfl, hb⟩; have n0_ := Aside0.mk (below_step (by repeat (first | (with_reducible first | exact HB.out | apply below_alloc | apply pw_below_drewN | apply below_drew1) | exact HB.out)) hb); clear HB; have HB := n0_; clear n0_; (try clear hb); (try clear hb2); (try clear hk); (try clear hi)) | ((with_reducible refine gate_dst (N := 55) rfl ?_); (try (refine gate_guard (by rfl) ?_; dsimp only)); refine Kd.R_lit (Kd.int .u64) _ 23 ?hg (N := 55) ?hd (xs := ([a3] : List Int)) (inner := [.int .u64 a3]) (ok := fun _ => True) (okp := fun _ => True) ?hr ?hp (fun _ hk => hk) trivial (Below.refl _ _) (Nat.le_refl _) (by simp) ?_; (case hd => rfl); (case hg => rfl); (case hr => first | (go_simp; done) | (go_simp; rfl)); (case hp => exact (Reps.one (show Kd.M (Kd.int .u64) _ _ _ a3 [.int .u64 a3] from rfl) (Reps.none _ _))); intro v324 w19 ho20 hb hg_ hnew_; clear hg_ hnew_; (first | rw [← Ny323.out] at ho20 | (simp only [Int.reduceToNat] at ho20; rw [← Ny323.out] at ho20)); have n0_ := Aside0.mk (Kd.R_lower ho20 (below_size (by repeat (first | (with_reducible first | exact HB.out | apply below_alloc | apply pw_below_drewN | apply below_drew1) | exact HB.out)))); have n1_ := Aside0.mk (below_step (by repeat (first | (with_reducible first | exact HB.out | apply below_alloc | apply pw_below_drewN | apply below_drew1) | exact HB.out)) hb); clear HB; have HO325 := n0_; have HB := n1_; clear n0_ n1_; clear hb ho20; obtain ⟨Ao21, co21, eo21⟩ := Kd.R_slice HO325.out; subst eo21) | (go_at_call 13; (with_reducible refine (proof_All.calls kj6 _ _ l0 _ _ l1 a2 _ _ y323 t326 t327 _ ?side1 ?side2 ?side3 ?side4 ?side5 ?side6 ?sideG A13.out).mono ?_); (case sideG => first | exact hG | exact ⟨hG.out⟩ | exact ⟨hG.out.below (by repeat (first | (with_reducible first | exact HB.out | apply below_alloc | apply pw_below_drewN | apply below_drew1) | exact HB.out))⟩); (case side1 => repeat (first | exact (Kd.C_below HR0.out HB.out) | (with_reducible refine Kd.C_alloc ?_ _) | (with_reducible refine Kd.C_drewN ?_ _) | (with_reducible refine Kd.C_drew ?_))); (case side2 => exact HC0.out); (case side3 => repeat (first | exact (Kd.C_below HR1.out HB.out) | (with_reducible refine Kd.C_alloc ?_ _) | (with_reducible refine Kd.C_drewN ?_ _) | (with_reducible refine Kd.C_drew ?_))); (case side4 => exact HC1.out); (case side5 => repeat (first | exact (Kd.R_reads' HO325.out).2.2 | (with_reducible refine Kd.C_alloc ?_ _) | (with_reducible refine Kd.C_drewN ?_ _) | (with_reducible refine Kd.C_drew ?_))); (case side6 => exact (Kd.R_reads' HO325.out).2.1); rintro e w22 ⟨rfl, hb⟩; have n0_ := Aside0.mk (Kd.R_below (by (with_reducible repeat (first | apply Kd.R_alloc | apply Kd.R_drewN | apply Kd.R_drew)); exact HO325.out) hb); have n1_ := Aside0.mk (below_step (by repeat (first | (with_reducible first | exact HB.out | apply below_alloc | apply pw_below_drewN | apply below_drew1) | exact HB.out)) hb); clear HO325; clear HB; have HO325 := n0_; have HB := n1_; clear n0_ n1_; (try clear hb); (try clear hb2); (try clear hk); (try clear hi)) | (go_at_call 14; (with_reducible refine (proof_Power.calls kj6 _ _ l0 _ _ l1 t328 t329 _ ?side1 ?side2 ?side3 ?side4 ?sideG A14.out).mono ?_); (case sideG => first | exact hG | exact ⟨hG.out⟩ | exact ⟨hG.out.below (by repeat (first | (with_reducible first | exact HB.out | apply below_alloc | apply pw_below_drewN | apply below_drew1) | exact HB.out))⟩); (case side1 => repeat (first | exact (Kd.C_below HR0.out HB.out) | (with_reducible refine Kd.C_alloc ?_ _) | (with_reducible refine Kd.C_drewN ?_ _) | (with_reducible refine Kd.C_drew ?_))); (case side2 => exact HC0.out); (case side3 => repeat (first | exact (Kd.C_below HR1.out HB.out) | (with_reducible refine Kd.C_alloc ?_ _) | (with_reducible refine Kd.C_drewN ?_ _) | (with_reducible refine Kd.C_drew ?_))); (case side4 => exact HC1.out); rintro e w23 ⟨rfl, hb⟩; have n0_ := Aside0.mk (Kd.R_below (by (with_reducible repeat (first | apply Kd.R_alloc | apply Kd.R_drewN | apply Kd.R_drew)); exact HO325.out) hb); have n1_ := Aside0.mk (below_step (by repeat (first | (with_reducible first | exact HB.out | apply below_alloc | apply pw_below_drewN | apply below_drew1) | exact HB.out)) hb); clear HO325; clear HB; have HO325 := n0_; have HB := n1_; clear n0_ n1_; (try clear hb); (try clear hb2); (try clear hk); (try clear hi)) | (go_at_call 6; (with_reducible refine (abacistref03_Fits.calls kj6 (l1.length : Int) t330 _ A15.out).mono ?_); rintro e w' ⟨rfl, ⟨nd, rfl⟩⟩; (try first | exact ⟨rfl, _, World.drewN_drewN _ _ _⟩ | exact ⟨rfl, _, Eq.trans (World.drewN_drewN _ _ _) (congrArg (World.drewN _) (Nat.add_assoc _ _ _))⟩)))
              repeat (go_quiet (first | (go_at_call 7; (with_reducible refine (proof_Fits.calls kj6 _ _ l0 _ _ l1 a2 a3 t319 t320 _ ?side1 ?side2 ?side3 ?side4 ?sideG A11.out).mono ?_); (case sideG => first | exact hG | exact ⟨hG.out⟩ | exact ⟨hG.out.below (by repeat (first | (with_reducible first | exact HB.out | apply below_alloc | apply pw_below_drewN | apply below_drew1) | exact HB.out))⟩); (case side1 => repeat (first | exact (Kd.C_below HR0.out HB.out) | (with_reducible refine Kd.C_alloc ?_ _) | (with_reducible refine Kd.C_drewN ?_ _) | (with_reducible refine Kd.C_drew ?_))); (case side2 => exact HC0.out); (case side3 => repeat (first | exact (Kd.C_below HR1.out HB.out) | (with_reducible refine Kd.C_alloc ?_ _) | (with_reducible refine Kd.C_drewN ?_ _) | (with_reducible refine Kd.C_drew ?_))); (case side4 => exact HC1.out); rintro e w17 ⟨rfl, hb⟩; have n0_ := Aside0.mk (below_step (by repeat (first | (with_reducible first | exact HB.out | apply below_alloc | apply pw_below_drewN | apply below_drew1) | exact HB.out)) hb); clear HB; have HB := n0_; clear n0_; (try clear hb); (try clear hb2); (try clear hk); (try clear hi)) | (go_at_call 12; (with_reducible refine (proof_Ends.calls kj6 _ _ l0 _ _ l1 a2 t321 t322 _ ?side1 ?side2 ?side3 ?side4 ?sideG A12.out).mono ?_); (case sideG => first | exact hG | exact ⟨hG.out⟩ | exact ⟨hG.out.below (by repeat (first | (with_reducible first | exact HB.out | apply below_alloc | apply pw_below_drewN | apply below_drew1) | exact HB.out))⟩); (case side1 => repeat (first | exact (Kd.C_below HR0.out HB.out) | (with_reducible refine Kd.C_alloc ?_ _) | (with_reducible refine Kd.C_drewN ?_ _) | (with_reducible refine Kd.C_drew ?_))); (case side2 => exact HC0.out); (case side3 => repeat (first | exact (Kd.C_below HR1.out HB.out) | (with_reducible refine Kd.C_alloc ?_ _) | (with_reducible refine Kd.C_drewN ?_ _) | (with_reducible refine Kd.C_drew ?_))); (case side4 => exact HC1.out); rintro e w18 ⟨rfl, hb⟩; have n0_ := Aside0.mk (below_step (by repeat (first | (with_reducible first | exact HB.out | apply below_alloc | apply pw_below_drewN | apply below_drew1) | exact HB.out)) hb); clear HB; have HB := n0_; clear n0_; (try clear hb); (try clear hb2); (try clear hk); (try clear hi)) | ((with_reducible refine gate_dst (N := 55) rfl ?_); (try (refine gate_guard (by rfl) ?_; dsimp only)); refine Kd.R_lit (Kd.int .u64) _ 23 ?hg (N := 55) ?hd (xs := ([a3] : List Int)) (inner := [.int .u64 a3]) (ok := fun _ => True) (okp := fun _ => True) ?hr ?hp (fun _ hk => hk) trivial (Below.refl _ _) (Nat.le_refl _) (by simp) ?_; (case hd => rfl); (case hg => rfl); (case hr => first | (go_simp; done) | (go_simp; rfl)); (case hp => exact (Reps.one (show Kd.M (Kd.int .u64) _ _ _ a3 [.int .u64 a3] from rfl) (Reps.none _ _))); intro v324 w19 ho20 hb hg_ hnew_; clear hg_ hnew_; (first | rw [← Ny323.out] at ho20 | (simp only [Int.reduceToNat] at ho20; rw [← Ny323.out] at ho20)); have n0_ := Aside0.mk (Kd.R_lower ho20 (below_size (by repeat (first | (with_reducible first | exact HB.out | apply below_alloc | apply pw_below_drewN | apply below_drew1) | exact HB.out)))); have n1_ := Aside0.mk (below_step (by repeat (first | (with_reducible first | exact HB.out | apply below_alloc | apply pw_below_drewN | apply below_drew1) | exact HB.out)) hb); clear HB; have HO325 := n0_; have HB := n1_; clear n0_ n1_; clear hb ho20; obtain ⟨Ao21, co21, eo21⟩ := Kd.R_slice HO325.out; subst eo21) | (go_at_call 13; (with_reducible refine (proof_All.calls kj6 _ _ l0 _ _ l1 a2 _ _ y323 t326 t327 _ ?side1 ?side2 ?side3 ?side4 ?side5 ?side6 ?sideG A13.out).mono ?_); (case sideG => first | exact hG | exact ⟨hG.out⟩ | exact ⟨hG.out.below (by repeat (first | (with_reducible first | exact HB.out | apply below_alloc | apply pw_below_drewN | apply below_drew1) | exact HB.out))⟩); (case side1 => repeat (first | exact (Kd.C_below HR0.out HB.out) | (with_reducible refine Kd.C_alloc ?_ _) | (with_reducible refine Kd.C_drewN ?_ _) | (with_reducible refine Kd.C_drew ?_))); (case side2 => exact HC0.out); (case side3 => repeat (first | exact (Kd.C_below HR1.out HB.out) | (with_reducible refine Kd.C_alloc ?_ _) | (with_reducible refine Kd.C_drewN ?_ _) | (with_reducible refine Kd.C_drew ?_))); (case side4 => exact HC1.out); (case side5 => repeat (first | exact (Kd.R_reads' HO325.out).2.2 | (with_reducible refine Kd.C_alloc ?_ _) | (with_reducible refine Kd.C_drewN ?_ _) | (with_reducible refine Kd.C_drew ?_))); (case side6 => exact (Kd.R_reads' HO325.out).2.1); rintro e w22 ⟨rfl, hb⟩; have n0_ := Aside0.mk (Kd.R_below (by (with_reducible repeat (first | apply Kd.R_alloc | apply Kd.R_drewN | apply Kd.R_drew)); exact HO325.out) hb); have n1_ := Aside0.mk (below_step (by repeat (first | (with_reducible first | exact HB.out | apply below_alloc | apply pw_below_drewN | apply below_drew1) | exact HB.out)) hb); clear HO325; clear HB; have HO325 := n0_; have HB := n1_; clear n0_ n1_; (try clear hb); (try clear hb2); (try clear hk); (try clear hi)) | (go_at_call 14; (with_reducible refine (proof_Power.calls kj6 _ _ l0 _ _ l1 t328 t329 _ ?side1 ?side2 ?side3 ?side4 ?sideG A14.out).mono ?_); (case sideG => first | exact hG | exact ⟨hG.out⟩ | exact ⟨hG.out.below (by repeat (first | (with_reducible first | exact HB.out | apply below_alloc | apply pw_below_drewN | apply below_drew1) | exact HB.out))⟩); (case side1 => repeat (first | exact (Kd.C_below HR0.out HB.out) | (with_reducible refine Kd.C_alloc ?_ _) | (with_reducible refine Kd.C_drewN ?_ _) | (with_reducible refine Kd.C_drew ?_))); (case side2 => exact HC0.out); (case side3 => repeat (first | exact (Kd.C_below HR1.out HB.out) | (with_reducible refine Kd.C_alloc ?_ _) | (with_reducible refine Kd.C_drewN ?_ _) | (with_reducible refine Kd.C_drew ?_))); (case side4 => exact HC1.out); rintro e w23 ⟨rfl, hb⟩; have n0_ := Aside0.mk (Kd.R_below (by (with_reducible repeat (first | apply Kd.R_alloc | apply Kd.R_drewN | apply Kd.R_drew)); exact HO325.out) hb); have n1_ := Aside0.mk (below_step (by repeat (first | (with_reducible first | exact HB.out | apply below_alloc | apply pw_below_drewN | apply below_drew1) | exact HB.out)) hb); clear HO325; clear HB; have HO325 := n0_; have HB := n1_; clear n0_ n1_; (try clear hb); (try clear hb2); (try clear hk); (try clear hi)) | (go_at_call 6; (with_reducible refine (abacistref03_Fits.calls kj6 (l1.length : Int) t330 _ A15.out).mono ?_); rintro e w' ⟨rfl, ⟨nd, rfl⟩⟩; (try first | exact ⟨rfl, _, World.drewN_drewN _ _ _⟩ | exact ⟨rfl, _, Eq.trans (World.drewN_drewN _ _ _) (congrArg (World.drewN _) (Nat.add_assoc _ _ _))⟩))); go_upto_if 72 with (first | (go_at_call 7; (with_reducible refine (proof_Fits.calls kj6 _ _ l0 _ _ l1 a2 a3 t319 t320 _ ?side1 ?side2 ?side3 ?side4 ?sideG A11.out).mono ?_); (case sideG => first | exact hG | exact ⟨hG.out⟩ | exact ⟨hG.out.below (by repeat (first | (with_reducible first | exact HB.out | apply below_alloc | apply pw_below_drewN | apply below_drew1) | exact HB.out))⟩); (case side1 => repeat (first | exact (Kd.C_below HR0.out HB.out) | (with_reducible refine Kd.C_alloc ?_ _) | (with_reducible refine Kd.C_drewN ?_ _) | (with_reducible refine Kd.C_drew ?_))); (case side2 => exact HC0.out); (case side3 => repeat (first | exact (Kd.C_below HR1.out HB.out) | (with_reducible refine Kd.C_alloc ?_ _) | (with_reducible refine Kd.C_drewN ?_ _) | (with_reducible refine Kd.C_drew ?_))); (case side4 => exact HC1.out); rintro e w17 ⟨rfl, hb⟩; have n0_ := Aside0.mk (below_step (by repeat (first | (with_reducible first | exact HB.out | apply below_alloc | apply pw_below_drewN | apply below_drew1) | exact HB.out)) hb); clear HB; have HB := n0_; clear n0_; (try clear hb); (try clear hb2); (try clear hk); (try clear hi)) | (go_at_call 12; (with_reducible refine (proof_Ends.calls kj6 _ _ l0 _ _ l1 a2 t321 t322 _ ?side1 ?side2 ?side3 ?side4 ?sideG A12.out).mono ?_); (case sideG => first | exact hG | exact ⟨hG.out⟩ | exact ⟨hG.out.below (by repeat (first | (with_reducible first | exact HB.out | apply below_alloc | apply pw_below_drewN | apply below_drew1) | exact HB.out))⟩); (case side1 => repeat (first | exact (Kd.C_below HR0.out HB.out) | (with_reducible refine Kd.C_alloc ?_ _) | (with_reducible refine Kd.C_drewN ?_ _) | (with_reducible refine Kd.C_drew ?_))); (case side2 => exact HC0.out); (case side3 => repeat (first | exact (Kd.C_below HR1.out HB.out) | (with_reducible refine Kd.C_alloc ?_ _) | (with_reducible refine Kd.C_drewN ?_ _) | (with_reducible refine Kd.C_drew ?_))); (case side4 => exact HC1.out); rintro e w18 ⟨rfl, hb⟩; have n0_ := Aside0.mk (below_step (by repeat (first | (with_reducible first | exact HB.out | apply below_alloc | apply pw_below_drewN | apply below_drew1) | exact HB.out)) hb); clear HB; have HB := n0_; clear n0_; (try clear hb); (try clear hb2); (try clear hk); (try clear hi)) | ((with_reducible refine gate_dst (N := 55) rfl ?_); (try (refine gate_guard (by rfl) ?_; dsimp only)); refine Kd.R_lit (Kd.int .u64) _ 23 ?hg (N := 55) ?hd (xs := ([a3] : List Int)) (inner := [.int .u64 a3]) (ok := fun _ => True) (okp := fun _ => True) ?hr ?hp (fun _ hk => hk) trivial (Below.refl _ _) (Nat.le_refl _) (by simp) ?_; (case hd => rfl); (case hg => rfl); (case hr => first | (go_simp; done) | (go_simp; rfl)); (case hp => exact (Reps.one (show Kd.M (Kd.int .u64) _ _ _ a3 [.int .u64 a3] from rfl) (Reps.none _ _))); intro v324 w19 ho20 hb hg_ hnew_; clear hg_ hnew_; (first | rw [← Ny323.out] at ho20 | (simp only [Int.reduceToNat] at ho20; rw [← Ny323.out] at ho20)); have n0_ := Aside0.mk (Kd.R_lower ho20 (below_size (by repeat (first | (with_reducible first | exact HB.out | apply below_alloc | apply pw_below_drewN | apply below_drew1) | exact HB.out)))); have n1_ := Aside0.mk (below_step (by repeat (first | (with_reducible first | exact HB.out | apply below_alloc | apply pw_below_drewN | apply below_drew1) | exact HB.out)) hb); clear HB; have HO325 := n0_; have HB := n1_; clear n0_ n1_; clear hb ho20; obtain ⟨Ao21, co21, eo21⟩ := Kd.R_slice HO325.out; subst eo21) | (go_at_call 13; (with_reducible refine (proof_All.calls kj6 _ _ l0 _ _ l1 a2 _ _ y323 t326 t327 _ ?side1 ?side2 ?side3 ?side4 ?side5 ?side6 ?sideG A13.out).mono ?_); (case sideG => first | exact hG | exact ⟨hG.out⟩ | exact ⟨hG.out.below (by repeat (first | (with_reducible first | exact HB.out | apply below_alloc | apply pw_below_drewN | apply below_drew1) | exact HB.out))⟩); (case side1 => repeat (first | exact (Kd.C_below HR0.out HB.out) | (with_reducible refine Kd.C_alloc ?_ _) | (with_reducible refine Kd.C_drewN ?_ _) | (with_reducible refine Kd.C_drew ?_))); (case side2 => exact HC0.out); (case side3 => repeat (first | exact (Kd.C_below HR1.out HB.out) | (with_reducible refine Kd.C_alloc ?_ _) | (with_reducible refine Kd.C_drewN ?_ _) | (with_reducible refine Kd.C_drew ?_))); (case side4 => exact HC1.out); (case side5 => repeat (first | exact (Kd.R_reads' HO325.out).2.2 | (with_reducible refine Kd.C_alloc ?_ _) | (with_reducible refine Kd.C_drewN ?_ _) | (with_reducible refine Kd.C_drew ?_))); (case side6 => exact (Kd.R_reads' HO325.out).2.1); rintro e w22 ⟨rfl, hb⟩; have n0_ := Aside0.mk (Kd.R_below (by (with_reducible repeat (first | apply Kd.R_alloc | apply Kd.R_drewN | apply Kd.R_drew)); exact HO325.out) hb); have n1_ := Aside0.mk (below_step (by repeat (first | (with_reducible first | exact HB.out | apply below_alloc | apply pw_below_drewN | apply below_drew1) | exact HB.out)) hb); clear HO325; clear HB; have HO325 := n0_; have HB := n1_; clear n0_ n1_; (try clear hb); (try clear hb2); (try clear hk); (try clear hi)) | (go_at_call 14; (with_reducible refine (proof_Power.calls kj6 _ _ l0 _ _ l1 t328 t329 _ ?side1 ?side2 ?side3 ?side4 ?sideG A14.out).mono ?_); (case sideG => first | exact hG | exact ⟨hG.out⟩ | exact ⟨hG.out.below (by repeat (first | (with_reducible first | exact HB.out | apply below_alloc | apply pw_below_drewN | apply below_drew1) | exact HB.out))⟩); (case side1 => repeat (first | exact (Kd.C_below HR0.out HB.out) | (with_reducible refine Kd.C_alloc ?_ _) | (with_reducible refine Kd.C_drewN ?_ _) | (with_reducible refine Kd.C_drew ?_))); (case side2 => exact HC0.out); (case side3 => repeat (first | exact (Kd.C_below HR1.out HB.out) | (with_reducible refine Kd.C_alloc ?_ _) | (with_reducible refine Kd.C_drewN ?_ _) | (with_reducible refine Kd.C_drew ?_))); (case side4 => exact HC1.out); rintro e w23 ⟨rfl, hb⟩; have n0_ := Aside0.mk (Kd.R_below (by (with_reducible repeat (first | apply Kd.R_alloc | apply Kd.R_drewN | apply Kd.R_drew)); exact HO325.out) hb); have n1_ := Aside0.mk (below_step (by repeat (first | (with_reducible first | exact HB.out | apply below_alloc | apply pw_below_drewN | apply below_drew1) | exact HB.out)) hb); clear HO325; clear HB; have HO325 := n0_; have HB := n1_; clear n0_ n1_; (try clear hb); (try clear hb2); (try clear hk); (try clear hi)) | (go_at_call 6; (with_reducible refine (abacistref03_Fits.calls kj6 (l1.length : Int) t330 _ A15.out).mono ?_); rintro e w' ⟨rfl, ⟨nd, rfl⟩⟩; (try first | exact ⟨rfl, _, World.drewN_drewN _ _ _⟩ | exact ⟨rfl, _, Eq.trans (World.drewN_drewN _ _ _) (congrArg (World.drewN _) (Nat.add_assoc _ _ _))⟩))))
              (try simp only [Act.put, List.setIfInBounds_toArray, List.set_cons_zero, List.set_cons_succ])
              go_cut [17] (fun v17 wc => ∃ (kq : Nat) (x17_15 : Int), v17 = .int .i64 x17_15 ∧ Aside0 (abacistlaw28_ProofTells.j1 kq l0 l1 a2 a3 t319 t320 t321 t322 t326 t327 t328 t329 x17_15 t330 = some r) ∧ Aside0 (kq ≤ kj6) ∧ Aside0 (Below w.heap.size w wc))
              case first =>
                have H := HC16.out
                clear HC16
                by_cases c24 : (l0.length : Int) = (l1.length : Int)
                · rw [if_pos c24] at H
                  have c24b0 : ((l0.length : Int) == (l1.length : Int)) = true := beq_iff_eq.mpr c24
                  have c24b1 : ((l0.length : Int) != (l1.length : Int)) = false := bne_eq_false_iff_eq.mpr c24
                  have c24b2 : (l0.length == l1.length) = true := by first | simpa using c24 | (simp at c24 ⊢; omega)
                  clear c24
                  (first | rw [c24b0] | (simp only [i64_w, i32_w]; rw [c24b0]) | skip)
                  by_cases c25 : t330 < 0
                  · rw [if_pos c25] at H
                    have c25b0 : decide (t330 < 0) = true := decide_eq_true c25
                    clear c25
                    have H' := Aside0.mk H
                    clear H
                    go_wp2
                    repeat (go_quiet (fail); try go_wp2)
                    go_meet
                    case rel => exact ⟨_, (4), (by first | rfl | (simp; done) | (simp [*]; done)), H', ⟨by have := HJ6.out; first | omega | exact Nat.le_refl _⟩, ⟨by repeat (first | (with_reducible first | exact HB.out | apply below_alloc | apply pw_below_drewN | apply below_drew1) | exact HB.out)⟩⟩
                  · rw [if_neg c25] at H
                    have c25b0 : decide (t330 < 0) = false := decide_eq_false c25
                    clear c25
                    have H' := Aside0.mk H
                    clear H
                    go_wp2
                    repeat (go_quiet (fail); try go_wp2)
                    go_meet
                    case rel => exact ⟨_, (0), (by first | rfl | (simp; done) | (simp [*]; done)), H', ⟨by have := HJ6.out; first | omega | exact Nat.le_refl _⟩, ⟨by repeat (first | (with_reducible first | exact HB.out | apply below_alloc | apply pw_below_drewN | apply below_drew1) | exact HB.out)⟩⟩
                · rw [if_neg c24] at H
                  have c24b0 : ((l0.length : Int) == (l1.length : Int)) = false := beq_eq_false_iff_ne.mpr c24
                  have c24b1 : ((l0.length : Int) != (l1.length : Int)) = true := bne_iff_ne.mpr c24
                  have c24b2 : (l0.length == l1.length) = false := by first | simpa using c24 | (simp at c24 ⊢; omega)
                  (first | rw [c24b0] | (simp only [i64_w, i32_w]; rw [c24b0]) | skip)
                  have H' := Aside0.mk H
                  clear H
                  go_wp2
                  repeat (go_quiet (fail); try go_wp2)
                  go_meet
                  case rel => exact ⟨_, (19), (by first | rfl | (simp; done) | (simp [*]; done)), H', ⟨by have := HJ6.out; first | omega | exact Nat.le_refl _⟩, ⟨by repeat (first | (with_reducible first | exact HB.out | apply below_alloc | apply pw_below_drewN | apply below_drew1) | exact HB.out)⟩⟩
              case rest =>
                clear HC16
                try clear c1
                try clear c2
                try clear p2
                try clear c4
                try clear c6
                try clear c9
                try clear c9b0
                try clear c9b1
                try clear c10
                try clear c24
                try clear c24b0
                try clear c24b1
                try clear c24b2
                try clear c25
                try clear c25b0
                try clear p2
                obtain ⟨kq, x17_15, rfl, HA, HJ15, HB⟩ := hcut
                cases kq with
                | zero => exact absurd HA.out (by simp [abacistlaw28_ProofTells.j1])
                | succ kj15 =>
                  have H := HA.out
                  clear HA
                  simp only [abacistlaw28_ProofTells.j1] at H
                  have HC26 := Aside0.mk H
                  clear H
                  go_upto_region 15 with (fail)
                  repeat (go_quiet (fail); go_upto_region 15 with (fail))
                  go_cut [84] (fun v84 wc => ∃ (kq : Nat) (x84_25 : Bool), v84 = .bool x84_25 ∧ Aside0 (abacistlaw28_ProofTells.j2 kq l0 l1 a2 a3 t319 t320 t321 t322 t326 t327 t328 x17_15 t330 x84_25 = some r) ∧ Aside0 (kq ≤ kj15) ∧ Aside0 (Below w.heap.size w wc))
                  case first =>
                    have H := HC26.out
                    clear HC26
                    by_cases c27 : t329 = x17_15
                    · rw [if_pos c27] at H
                      have c27b0 : (t329 == x17_15) = true := beq_iff_eq.mpr c27
                      have c27b1 : (t329 != x17_15) = false := bne_eq_false_iff_eq.mpr c27
                      clear c27
                      (first | rw [c27b0] | (simp only [i64_w, i32_w]; rw [c27b0]) | skip)
                      by_cases c28 : x17_15 = 0
                      · rw [if_pos c28] at H
                        have c28b0 : (x17_15 == 0) = true := beq_iff_eq.mpr c28
                        have c28b1 : (x17_15 != 0) = false := bne_eq_false_iff_eq.mpr c28
                        clear c28
                        have H' := Aside0.mk H
                        clear H
                        go_wp2
                        repeat (go_quiet (fail); try go_wp2)
                        go_meet
                        case rel => exact ⟨_, (false), (by first | rfl | (simp; done) | (simp [*]; done)), H', ⟨by have := HJ6.out; have := HJ15.out; first | omega | exact Nat.le_refl _⟩, ⟨by repeat (first | (with_reducible first | exact HB.out | apply below_alloc | apply pw_below_drewN | apply below_drew1) | exact HB.out)⟩⟩
                      · rw [if_neg c28] at H
                        have c28b0 : (x17_15 == 0) = false := beq_eq_false_iff_ne.mpr c28
                        have c28b1 : (x17_15 != 0) = true := bne_iff_ne.mpr c28
                        have H' := Aside0.mk H
                        clear H
                        go_wp2
                        repeat (go_quiet (fail); try go_wp2)
                        go_meet
                        case rel => exact ⟨_, (t328), (by first | rfl | (simp; done) | (simp [*]; done)), H', ⟨by have := HJ6.out; have := HJ15.out; first | omega | exact Nat.le_refl _⟩, ⟨by repeat (first | (with_reducible first | exact HB.out | apply below_alloc | apply pw_below_drewN | apply below_drew1) | exact HB.out)⟩⟩
                    · rw [if_neg c27] at H
                      have c27b0 : (t329 == x17_15) = false := beq_eq_false_iff_ne.mpr c27
                      have c27b1 : (t329 != x17_15) = true := bne_iff_ne.mpr c27
                      (first | rw [c27b0] | (simp only [i64_w, i32_w]; rw [c27b0]) | skip)
                      have H' := Aside0.mk H
                      clear H
                      go_wp2
                      repeat (go_quiet (fail); try go_wp2)
                      go_meet
                      case rel => exact ⟨_, (true), (by first | rfl | (simp; done) | (simp [*]; done)), H', ⟨by have := HJ6.out; have := HJ15.out; first | omega | exact Nat.le_refl _⟩, ⟨by repeat (first | (with_reducible first | exact HB.out | apply below_alloc | apply pw_below_drewN | apply below_drew1) | exact HB.out)⟩⟩
                  case rest =>
                    clear HC26
                    try clear c1
                    try clear c2
                    try clear p2
                    try clear c4
                    try clear c6
                    try clear c9
                    try clear c9b0
                    try clear c9b1
                    try clear c10
                    try clear c24
                    try clear c24b0
                    try clear c24b1
                    try clear c24b2
                    try clear c25
                    try clear c25b0
                    try clear c27
                    try clear c27b0
                    try clear c27b1
                    try clear c28
                    try clear c28b0
                    try clear c28b1
                    try clear p2
                    obtain ⟨kq, x84_25, rfl, HA, HJ25, HB⟩ := hcut
                    cases kq with
                    | zero => exact absurd HA.out (by simp [abacistlaw28_ProofTells.j2])
                    | succ kj25 =>
                      have H := HA.out
                      clear HA
                      simp only [abacistlaw28_ProofTells.j2] at H
                      by_cases c29 : x84_25 = true
                      · subst c29
                        have H1 : (some false) = some r := by rw [if_pos rfl] at H; exact H
                        clear H
                        have H := H1
                        clear H1
                        obtain rfl := Option.some.inj H
                        exact absurd hr_.out (by decide)
                      · as_aux_lemma =>
                          replace c29 := Bool.eq_false_iff.mpr c29
                          subst c29
                          have H1 : (if x17_15 = 0 then (if a2 = 0 then (abacistlaw28_ProofTells.j3 kj25 l0 l1 a2 a3 t319 t320 t321 t322 t326 t327 t328 x17_15 t330 false) else (abacistlaw28_ProofTells.j3 kj25 l0 l1 a2 a3 t319 t320 t321 t322 t326 t327 t328 x17_15 t330 (a2 != 1))) else (abacistlaw28_ProofTells.j3 kj25 l0 l1 a2 a3 t319 t320 t321 t322 t326 t327 t328 x17_15 t330 false)) = some r := by rw [if_neg (show ¬ (false = true) by decide)] at H; exact H
                          clear H
                          have H := H1
                          clear H1
                          have HC30 := Aside0.mk H
                          clear H
                          go_upto_region 17 with (fail)
                          repeat (go_quiet (fail); go_upto_region 17 with (fail))
                          go_cut [94] (fun v94 wc => ∃ (kq : Nat) (x94_29 : Bool), v94 = .bool x94_29 ∧ Aside0 (abacistlaw28_ProofTells.j3 kq l0 l1 a2 a3 t319 t320 t321 t322 t326 t327 t328 x17_15 t330 x94_29 = some r) ∧ Aside0 (kq ≤ kj25) ∧ Aside0 (Below w.heap.size w wc))
                          case first =>
                            have H := HC30.out
                            clear HC30
                            by_cases c31 : x17_15 = 0
                            · rw [if_pos c31] at H
                              have c31b0 : (x17_15 == 0) = true := beq_iff_eq.mpr c31
                              have c31b1 : (x17_15 != 0) = false := bne_eq_false_iff_eq.mpr c31
                              clear c31
                              (first | rw [c31b0] | (simp only [i64_w, i32_w]; rw [c31b0]) | skip)
                              by_cases c32 : a2 = 0
                              · rw [if_pos c32] at H
                                have c32b0 : (a2 == 0) = true := beq_iff_eq.mpr c32
                                have c32b1 : (a2 != 0) = false := bne_eq_false_iff_eq.mpr c32
                                clear c32
                                have H' := Aside0.mk H
                                clear H
                                go_wp2
                                repeat (go_quiet (fail); try go_wp2)
                                go_meet
                                case rel => exact ⟨_, (false), (by first | rfl | (simp; done) | (simp [*]; done)), H', ⟨by have := HJ6.out; have := HJ15.out; have := HJ25.out; first | omega | exact Nat.le_refl _⟩, ⟨by repeat (first | (with_reducible first | exact HB.out | apply below_alloc | apply pw_below_drewN | apply below_drew1) | exact HB.out)⟩⟩
                              · rw [if_neg c32] at H
                                have c32b0 : (a2 == 0) = false := beq_eq_false_iff_ne.mpr c32
                                have c32b1 : (a2 != 0) = true := bne_iff_ne.mpr c32
                                have H' := Aside0.mk H
                                clear H
                                go_wp2
                                repeat (go_quiet (fail); try go_wp2)
                                go_meet
                                case rel => exact ⟨_, ((a2 != 1)), (by first | rfl | (simp; done) | (simp [*]; done)), H', ⟨by have := HJ6.out; have := HJ15.out; have := HJ25.out; first | omega | exact Nat.le_refl _⟩, ⟨by repeat (first | (with_reducible first | exact HB.out | apply below_alloc | apply pw_below_drewN | apply below_drew1) | exact HB.out)⟩⟩
                            · rw [if_neg c31] at H
                              have c31b0 : (x17_15 == 0) = false := beq_eq_false_iff_ne.mpr c31
                              have c31b1 : (x17_15 != 0) = true := bne_iff_ne.mpr c31
                              (first | rw [c31b0] | (simp only [i64_w, i32_w]; rw [c31b0]) | skip)
                              have H' := Aside0.mk H
                              clear H
                              go_wp2
                              repeat (go_quiet (fail); try go_wp2)
                              go_meet
                              case rel => exact ⟨_, (false), (by first | rfl | (simp; done) | (simp [*]; done)), H', ⟨by have := HJ6.out; have := HJ15.out; have := HJ25.out; first | omega | exact Nat.le_refl _⟩, ⟨by repeat (first | (with_reducible first | exact HB.out | apply below_alloc | apply pw_below_drewN | apply below_drew1) | exact HB.out)⟩⟩
                          case rest =>
                            clear HC30
                            try clear c1
                            try clear c2
                            try clear p2
                            try clear c3
                            try clear c4
                            try clear c6
                            try clear c9
                            try clear c9b0
                            try clear c9b1
                            try clear c10
                            try clear c24
                            try clear c24b0
                            try clear c24b1
                            try clear c24b2
                            try clear c25
                            try clear c25b0
                            try clear c27
                            try clear c27b0
                            try clear c27b1
                            try clear c28
                            try clear c28b0
                            try clear c28b1
                            try clear c29
                            try clear c31
                            try clear c31b0
                            try clear c31b1
                            try clear c32
                            try clear c32b0
                            try clear c32b1
                            try clear p2
                            obtain ⟨kq, x94_29, rfl, HA, HJ29, HB⟩ := hcut
                            cases kq with
                            | zero => exact absurd HA.out (by simp [abacistlaw28_ProofTells.j3])
                            | succ kj29 =>
                              have H := HA.out
                              clear HA
                              simp only [abacistlaw28_ProofTells.j3] at H
                              have HC33 := Aside0.mk H
                              clear H
                              go_upto_if 94 with (fail)
                              repeat (go_quiet (fail); go_upto_if 94 with (fail))
                              go_cut [17] (fun v17 wc => ∃ (kq : Nat) (x17_32 : Int), v17 = .int .i64 x17_32 ∧ Aside0 (abacistlaw28_ProofTells.j4 kq l0 l1 a2 a3 t319 t320 t321 t322 t326 t327 t328 x17_32 t330 = some r) ∧ Aside0 (kq ≤ kj29) ∧ Aside0 (Below w.heap.size w wc))
                              case first =>
                                have H := HC33.out
                                clear HC33
                                by_cases c34 : x94_29 = true
                                · subst c34
                                  have H1 : (abacistlaw28_ProofTells.j4 kj29 l0 l1 a2 a3 t319 t320 t321 t322 t326 t327 t328 18 t330) = some r := by rw [if_pos rfl] at H; exact H
                                  clear H
                                  have H := H1
                                  clear H1
                                  have H' := Aside0.mk H
                                  clear H
                                  go_wp2
                                  repeat (go_quiet (fail); try go_wp2)
                                  go_meet
                                  case rel => exact ⟨_, (18), (by first | rfl | (simp; done) | (simp [*]; done)), H', ⟨by have := HJ6.out; have := HJ15.out; have := HJ25.out; have := HJ29.out; first | omega | exact Nat.le_refl _⟩, ⟨by repeat (first | (with_reducible first | exact HB.out | apply below_alloc | apply pw_below_drewN | apply below_drew1) | exact HB.out)⟩⟩
                                · replace c34 := Bool.eq_false_iff.mpr c34
                                  subst c34
                                  have H1 : (abacistlaw28_ProofTells.j4 kj29 l0 l1 a2 a3 t319 t320 t321 t322 t326 t327 t328 x17_15 t330) = some r := by rw [if_neg (show ¬ (false = true) by decide)] at H; exact H
                                  clear H
                                  have H := H1
                                  clear H1
                                  have H' := Aside0.mk H
                                  clear H
                                  go_wp2
                                  repeat (go_quiet (fail); try go_wp2)
                                  go_meet
                                  case rel => exact ⟨_, (x17_15), (by first | rfl | (simp; done) | (simp [*]; done)), H', ⟨by have := HJ6.out; have := HJ15.out; have := HJ25.out; have := HJ29.out; first | omega | exact Nat.le_refl _⟩, ⟨by repeat (first | (with_reducible first | exact HB.out | apply below_alloc | apply pw_below_drewN | apply below_drew1) | exact HB.out)⟩⟩
                              case rest =>
                                clear HC33
                                try clear c1
                                try clear c2
                                try clear p2
                                try clear c3
                                try clear c4
                                try clear c6
                                try clear c9
                                try clear c9b0
                                try clear c9b1
                                try clear c10
                                try clear c24
                                try clear c24b0
                                try clear c24b1
                                try clear c24b2
                                try clear c25
                                try clear c25b0
                                try clear c27
                                try clear c27b0
                                try clear c27b1
                                try clear c28
                                try clear c28b0
                                try clear c28b1
                                try clear c29
                                try clear c31
                                try clear c31b0
                                try clear c31b1
                                try clear c32
                                try clear c32b0
                                try clear c32b1
                                try clear c34
                                try clear p2
                                obtain ⟨kq, x17_32, rfl, HA, HJ32, HB⟩ := hcut
                                cases kq with
                                | zero => exact absurd HA.out (by simp [abacistlaw28_ProofTells.j4])
                                | succ kj32 =>
                                  have H := HA.out
                                  clear HA
                                  simp only [abacistlaw28_ProofTells.j4] at H
                                  by_cases c35 : x17_32 = 0
                                  · as_aux_lemma =>
                                      rw [if_pos c35] at H
                                      have c35b0 : (x17_32 == 0) = true := beq_iff_eq.mpr c35
                                      have c35b1 : (x17_32 != 0) = false := bne_eq_false_iff_eq.mpr c35
                                      clear c35
                                      have H' := Aside0.mk H
                                      clear H
                                      go_wp2
                                      repeat (go_quiet (fail); try go_wp2)
                                      go_loopg [19, 20, 21, 22, 23] kj32 (fun kq v19 v20 v21 v22 v23 w' => ∃ (x19_6 : Int) (x20_6 : Int) (x21_6 : Int) (x22_6 : Int) (x23_6 : Int), v19 = .int .u64 x19_6 ∧ v20 = .int .u64 x20_6 ∧ v21 = .int .u64 x21_6 ∧ v22 = .int .u64 x22_6 ∧ v23 = .int .i64 x23_6 ∧ Aside0 (abacistlaw28_ProofTells.l0 kq l0 l1 a2 a3 t319 t320 t321 t322 t326 t327 t328 t330 x19_6 x20_6 x21_6 x22_6 x23_6 = some r) ∧ Aside0 (kq ≤ kj32) ∧ Aside0 (Below w.heap.size w w'))
                                      case atStart => exact ⟨(0), (0), (0), (0), (0), (by first | rfl | (simp; done) | (simp [*]; done)), (by first | rfl | (simp; done) | (simp [*]; done)), (by first | rfl | (simp; done) | (simp [*]; done)), (by first | rfl | (simp; done) | (simp [*]; done)), (by first | rfl | (simp; done) | (simp [*]; done)), H', ⟨Nat.le_refl _⟩, ⟨by repeat (first | (with_reducible first | exact HB.out | apply below_alloc | apply pw_below_drewN | apply below_drew1) | exact HB.out)⟩⟩
                                      case round =>
                                        clear H'
                                        try clear c1
                                        try clear c2
                                        try clear p2
                                        try clear c3
                                        try clear c4
                                        try clear c6
                                        try clear c9
                                        try clear c9b0
                                        try clear c9b1
                                        try clear c10
                                        try clear c24
                                        try clear c24b0
                                        try clear c24b1
                                        try clear c24b2
                                        try clear c25
                                        try clear c25b0
                                        try clear c27
                                        try clear c27b0
                                        try clear c27b1
                                        try clear c28
                                        try clear c28b0
                                        try clear c28b1
                                        try clear c29
                                        try clear c31
                                        try clear c31b0
                                        try clear c31b1
                                        try clear c32
                                        try clear c32b0
                                        try clear c32b1
                                        try clear c34
                                        try clear c35
                                        try clear c35b0
                                        try clear c35b1
                                        try clear p2
                                        obtain ⟨x19_6, x20_6, x21_6, x22_6, x23_6, rfl, rfl, rfl, rfl, rfl, HA, HK6, HB⟩ := hrel
                                        cases gk with
                                        | zero => exact absurd HA.out (by simp [abacistlaw28_ProofTells.l0])
                                        | succ k6 =>
                                          have H := HA.out
                                          clear HA
                                          simp only [abacistlaw28_ProofTells.l0] at H
                                          by_cases c36 : x23_6 < (l0.length : Int)
                                          · as_aux_lemma =>
                                              rw [if_pos c36] at H
                                              have c36b0 : decide (x23_6 < (l0.length : Int)) = true := decide_eq_true c36
                                              clear c36
                                              by_cases c37 : 0 ≤ x23_6
                                              · as_aux_lemma =>
                                                  rw [if_pos c37] at H
                                                  have c37b0 : decide (0 ≤ x23_6) = true := decide_eq_true c37
                                                  clear c37
                                                  replace H := Option.bind_eq_some_iff.mp H
                                                  obtain ⟨t332, A380, H⟩ := H
                                                  replace H : (if x23_6 < (l1.length : Int) then ((abacistref02_Add.f x20_6 (rd l1 x23_6)).bind fun t334 => (if (l0.length : Int) = 0 then (none) else (if 0 ≤ (Int.tmod (wrap64 ((l0.length : Int) - x23_6)) (l0.length : Int)) then (if (Int.tmod (wrap64 ((l0.length : Int) - x23_6)) (l0.length : Int)) < (l0.length : Int) then ((abacistref02_Mul.f k6 (rd l0 x23_6) (rd l0 (Int.tmod (wrap64 ((l0.length : Int) - x23_6)) (l0.length : Int)))).bind fun t337 => ((abacistref02_Add.f x21_6 t337).bind fun t338 => ((abacistref02_Mul.f k6 (rd l1 x23_6) (rd l1 x23_6)).bind fun t341 => ((abacistref02_Add.f x22_6 t341).bind fun t342 => (abacistlaw28_ProofTells.l0 k6 l0 l1 a2 a3 t319 t320 t321 t322 t326 t327 t328 t330 t332 t334 t338 t342 (wrap64 (x23_6 + 1))))))) else (none)) else (none)))) else (none)) = some r := H
                                                  have A38 := Aside0.mk A380
                                                  clear A380
                                                  by_cases c39 : x23_6 < (l1.length : Int)
                                                  · as_aux_lemma =>
                                                      rw [if_pos c39] at H
                                                      have c39b0 : decide (x23_6 < (l1.length : Int)) = true := decide_eq_true c39
                                                      clear c39
                                                      replace H := Option.bind_eq_some_iff.mp H
                                                      obtain ⟨t334, A400, H⟩ := H
                                                      replace H : (if (l0.length : Int) = 0 then (none) else (if 0 ≤ (Int.tmod (wrap64 ((l0.length : Int) - x23_6)) (l0.length : Int)) then (if (Int.tmod (wrap64 ((l0.length : Int) - x23_6)) (l0.length : Int)) < (l0.length : Int) then ((abacistref02_Mul.f k6 (rd l0 x23_6) (rd l0 (Int.tmod (wrap64 ((l0.length : Int) - x23_6)) (l0.length : Int)))).bind fun t337 => ((abacistref02_Add.f x21_6 t337).bind fun t338 => ((abacistref02_Mul.f k6 (rd l1 x23_6) (rd l1 x23_6)).bind fun t341 => ((abacistref02_Add.f x22_6 t341).bind fun t342 => (abacistlaw28_ProofTells.l0 k6 l0 l1 a2 a3 t319 t320 t321 t322 t326 t327 t328 t330 t332 t334 t338 t342 (wrap64 (x23_6 + 1))))))) else (none)) else (none))) = some r := H
                                                      have A40 := Aside0.mk A400
                                                      clear A400
                                                      by_cases c41 : (l0.length : Int) = 0
                                                      · rw [if_pos c41] at H
                                                        exact absurd H (by simp)
                                                      · as_aux_lemma =>
                                                          rw [if_neg c41] at H
                                                          have c41b0 : ((l0.length : Int) == 0) = false := beq_eq_false_iff_ne.mpr c41
                                                          have c41b1 : ((l0.length : Int) != 0) = true := bne_iff_ne.mpr c41
                                                          have c41b2 : ¬ (l0 = []) := fun h_ => c41 (by rw [h_]; rfl)
                                                          obtain ⟨ji42, hji42⟩ : ∃ j_ : Int, (Int.tmod (wrap64 ((l0.length : Int) - x23_6)) (l0.length : Int)) = j_ := ⟨_, rfl⟩
                                                          (try (have hji42w : (Int.tmod (IntKind.i64.wrap ((l0.length : Int) - x23_6)) (l0.length : Int)) = ji42 := by simpa only [i64_w] using hji42))
                                                          replace H : (if 0 ≤ (ji42) then (if (ji42) < (l0.length : Int) then ((abacistref02_Mul.f k6 (rd l0 x23_6) (rd l0 (ji42))).bind fun t337 => ((abacistref02_Add.f x21_6 t337).bind fun t338 => ((abacistref02_Mul.f k6 (rd l1 x23_6) (rd l1 x23_6)).bind fun t341 => ((abacistref02_Add.f x22_6 t341).bind fun t342 => (abacistlaw28_ProofTells.l0 k6 l0 l1 a2 a3 t319 t320 t321 t322 t326 t327 t328 t330 t332 t334 t338 t342 (wrap64 (x23_6 + 1))))))) else (none)) else (none)) = some r := by first | (rw [hji42] at H; exact H) | (simp only [hji42] at H ⊢; exact H)
                                                          (try rw [hji42] at A38)
                                                          (try rw [hji42] at A40)
                                                          by_cases c43 : 0 ≤ (ji42)
                                                          · as_aux_lemma =>
                                                              rw [if_pos c43] at H
                                                              have c43b0 : decide (0 ≤ (ji42)) = true := decide_eq_true c43
                                                              clear c43
                                                              by_cases c44 : (ji42) < (l0.length : Int)
                                                              · as_aux_lemma =>
                                                                  rw [if_pos c44] at H
                                                                  have c44b0 : decide ((ji42) < (l0.length : Int)) = true := decide_eq_true c44
                                                                  clear c44
                                                                  replace H := Option.bind_eq_some_iff.mp H
                                                                  obtain ⟨t337, A450, H⟩ := H
                                                                  replace H : ((abacistref02_Add.f x21_6 t337).bind fun t338 => ((abacistref02_Mul.f k6 (rd l1 x23_6) (rd l1 x23_6)).bind fun t341 => ((abacistref02_Add.f x22_6 t341).bind fun t342 => (abacistlaw28_ProofTells.l0 k6 l0 l1 a2 a3 t319 t320 t321 t322 t326 t327 t328 t330 t332 t334 t338 t342 (wrap64 (x23_6 + 1)))))) = some r := H
                                                                  have A45 := Aside0.mk A450
                                                                  clear A450
                                                                  replace H := Option.bind_eq_some_iff.mp H
                                                                  obtain ⟨t338, A460, H⟩ := H
                                                                  replace H : ((abacistref02_Mul.f k6 (rd l1 x23_6) (rd l1 x23_6)).bind fun t341 => ((abacistref02_Add.f x22_6 t341).bind fun t342 => (abacistlaw28_ProofTells.l0 k6 l0 l1 a2 a3 t319 t320 t321 t322 t326 t327 t328 t330 t332 t334 t338 t342 (wrap64 (x23_6 + 1))))) = some r := H
                                                                  have A46 := Aside0.mk A460
                                                                  clear A460
                                                                  replace H := Option.bind_eq_some_iff.mp H
                                                                  obtain ⟨t341, A470, H⟩ := H
                                                                  replace H : ((abacistref02_Add.f x22_6 t341).bind fun t342 => (abacistlaw28_ProofTells.l0 k6 l0 l1 a2 a3 t319 t320 t321 t322 t326 t327 t328 t330 t332 t334 t338 t342 (wrap64 (x23_6 + 1)))) = some r := H
                                                                  have A47 := Aside0.mk A470
                                                                  clear A470
                                                                  replace H := Option.bind_eq_some_iff.mp H
                                                                  obtain ⟨t342, A480, H⟩ := H
                                                                  replace H : (abacistlaw28_ProofTells.l0 k6 l0 l1 a2 a3 t319 t320 t321 t322 t326 t327 t328 t330 t332 t334 t338 t342 (wrap64 (x23_6 + 1))) = some r := H
                                                                  have A48 := Aside0.mk A480
                                                                  clear A480
                                                                  have H' := Aside0.mk H
                                                                  clear H
                                                                  have p331 : 0 ≤ (x23_6 : Int) := of_decide_eq_true (by first | (with_reducible assumption) | assumption)
                                                                  have q331 : x23_6 < (l0.length : Int) := of_decide_eq_true (by first | (with_reducible assumption) | assumption)
                                                                  obtain ⟨ad331, e331, hx331_0⟩ := Kd.at_int HR0.out x23_6 p331 q331
                                                                  cases e331
                                                                  replace hx331_0 := (HB.out.cell (World.block_lt_of_cell? w _ hx331_0)).trans hx331_0
                                                                  replace p331 := eq_true p331
                                                                  replace q331 := eq_true q331
                                                                  go_wp2_with (first | (go_at_call 8; (with_reducible refine (abacistref02_Add.calls x19_6 (rd l0 x23_6) t332 _ A38.out).mono ?_); rintro e w' ⟨rfl, ⟨nd, rfl⟩⟩; (try first | exact ⟨rfl, _, World.drewN_drewN _ _ _⟩ | exact ⟨rfl, _, Eq.trans (World.drewN_drewN _ _ _) (congrArg (World.drewN _) (Nat.add_assoc _ _ _))⟩); have p333 : 0 ≤ (x23_6 : Int) := of_decide_eq_true (by first | (with_reducible assumption) | assumption); have q333 : x23_6 < (l1.length : Int) := of_decide_eq_true (by first | (with_reducible assumption) | assumption); obtain ⟨ad333, e333, hx333_0⟩ := Kd.at_int HR1.out x23_6 p333 q333; cases e333; replace hx333_0 := (HB.out.cell (World.block_lt_of_cell? w _ hx333_0)).trans hx333_0; replace p333 := eq_true p333; replace q333 := eq_true q333) | (go_at_call 8; (with_reducible refine (abacistref02_Add.calls x20_6 (rd l1 x23_6) t334 _ A40.out).mono ?_); rintro e w' ⟨rfl, ⟨nd, rfl⟩⟩; (try first | exact ⟨rfl, _, World.drewN_drewN _ _ _⟩ | exact ⟨rfl, _, Eq.trans (World.drewN_drewN _ _ _) (congrArg (World.drewN _) (Nat.add_assoc _ _ _))⟩); have p335 : 0 ≤ (x23_6 : Int) := of_decide_eq_true (by first | (with_reducible assumption) | assumption); have q335 : x23_6 < (l0.length : Int) := of_decide_eq_true (by first | (with_reducible assumption) | assumption); obtain ⟨ad335, e335, hx335_0⟩ := Kd.at_int HR0.out x23_6 p335 q335; obtain rfl : ad331 = ad335 := (by injection e335); replace hx335_0 := (HB.out.cell (World.block_lt_of_cell? w _ hx335_0)).trans hx335_0; replace p335 := eq_true p335; replace q335 := eq_true q335; have p336 : 0 ≤ ((ji42) : Int) := of_decide_eq_true (by first | (with_reducible assumption) | assumption); have q336 : (ji42) < (l0.length : Int) := of_decide_eq_true (by first | (with_reducible assumption) | assumption); obtain ⟨ad336, e336, hx336_0⟩ := Kd.at_int HR0.out (ji42) p336 q336; obtain rfl : ad331 = ad336 := (by injection e336); replace hx336_0 := (HB.out.cell (World.block_lt_of_cell? w _ hx336_0)).trans hx336_0; replace p336 := eq_true p336; replace q336 := eq_true q336) | (go_at_call 15; (with_reducible refine (abacistref02_Mul.calls k6 (rd l0 x23_6) (rd l0 (ji42)) t337 _ A45.out).mono ?_); rintro e w' ⟨rfl, ⟨nd, rfl⟩⟩; (try first | exact ⟨rfl, _, World.drewN_drewN _ _ _⟩ | exact ⟨rfl, _, Eq.trans (World.drewN_drewN _ _ _) (congrArg (World.drewN _) (Nat.add_assoc _ _ _))⟩)) | (go_at_call 8; (with_reducible refine (abacistref02_Add.calls x21_6 t337 t338 _ A46.out).mono ?_); rintro e w' ⟨rfl, ⟨nd, rfl⟩⟩; (try first | exact ⟨rfl, _, World.drewN_drewN _ _ _⟩ | exact ⟨rfl, _, Eq.trans (World.drewN_drewN _ _ _) (congrArg (World.drewN _) (Nat.add_assoc _ _ _))⟩); have p339 : 0 ≤ (x23_6 : Int) := of_decide_eq_true (by first | (with_reducible assumption) | assumption); have q339 : x23_6 < (l1.length : Int) := of_decide_eq_true (by first | (with_reducible assumption) | assumption); obtain ⟨ad339, e339, hx339_0⟩ := Kd.at_int HR1.out x23_6 p339 q339; obtain rfl : ad333 = ad339 := (by injection e339); replace hx339_0 := (HB.out.cell (World.block_lt_of_cell? w _ hx339_0)).trans hx339_0; replace p339 := eq_true p339; replace q339 := eq_true q339; have p340 : 0 ≤ (x23_6 : Int) := of_decide_eq_true (by first | (with_reducible assumption) | assumption); have q340 : x23_6 < (l1.length : Int) := of_decide_eq_true (by first | (with_reducible assumption) | assumption); obtain ⟨ad340, e340, hx340_0⟩ := Kd.at_int HR1.out x23_6 p340 q340; obtain rfl : ad333 = ad340 := (by injection e340); replace hx340_0 := (HB.out.cell (World.block_lt_of_cell? w _ hx340_0)).trans hx340_0; replace p340 := eq_true p340; replace q340 := eq_true q340) | (go_at_call 15; (with_reducible refine (abacistref02_Mul.calls k6 (rd l1 x23_6) (rd l1 x23_6) t341 _ A47.out).mono ?_); rintro e w' ⟨rfl, ⟨nd, rfl⟩⟩; (try first | exact ⟨rfl, _, World.drewN_drewN _ _ _⟩ | exact ⟨rfl, _, Eq.trans (World.drewN_drewN _ _ _) (congrArg (World.drewN _) (Nat.add_assoc _ _ _))⟩)) | (go_at_call 8; (with_reducible refine (abacistref02_Add.calls x22_6 t341 t342 _ A48.out).mono ?_); rintro e w' ⟨rfl, ⟨nd, rfl⟩⟩; (try first | exact ⟨rfl, _, World.drewN_drewN _ _ _⟩ | exact ⟨rfl, _, Eq.trans (World.drewN_drewN _ _ _) (congrArg (World.drewN _) (Nat.add_assoc _ _ _))⟩)))
                                                                  repeat (go_quiet (first | (go_at_call 8; (with_reducible refine (abacistref02_Add.calls x19_6 (rd l0 x23_6) t332 _ A38.out).mono ?_); rintro e w' ⟨rfl, ⟨nd, rfl⟩⟩; (try first | exact ⟨rfl, _, World.drewN_drewN _ _ _⟩ | exact ⟨rfl, _, Eq.trans (World.drewN_drewN _ _ _) (congrArg (World.drewN _) (Nat.add_assoc _ _ _))⟩); have p333 : 0 ≤ (x23_6 : Int) := of_decide_eq_true (by first | (with_reducible assumption) | assumption); have q333 : x23_6 < (l1.length : Int) := of_decide_eq_true (by first | (with_reducible assumption) | assumption); obtain ⟨ad333, e333, hx333_0⟩ := Kd.at_int HR1.out x23_6 p333 q333; cases e333; replace hx333_0 := (HB.out.cell (World.block_lt_of_cell? w _ hx333_0)).trans hx333_0; replace p333 := eq_true p333; replace q333 := eq_true q333) | (go_at_call 8; (with_reducible refine (abacistref02_Add.calls x20_6 (rd l1 x23_6) t334 _ A40.out).mono ?_); rintro e w' ⟨rfl, ⟨nd, rfl⟩⟩; (try first | exact ⟨rfl, _, World.drewN_drewN _ _ _⟩ | exact ⟨rfl, _, Eq.trans (World.drewN_drewN _ _ _) (congrArg (World.drewN _) (Nat.add_assoc _ _ _))⟩); have p335 : 0 ≤ (x23_6 : Int) := of_decide_eq_true (by first | (with_reducible assumption) | assumption); have q335 : x23_6 < (l0.length : Int) := of_decide_eq_true (by first | (with_reducible assumption) | assumption); obtain ⟨ad335, e335, hx335_0⟩ := Kd.at_int HR0.out x23_6 p335 q335; obtain rfl : ad331 = ad335 := (by injection e335); replace hx335_0 := (HB.out.cell (World.block_lt_of_cell? w _ hx335_0)).trans hx335_0; replace p335 := eq_true p335; replace q335 := eq_true q335; have p336 : 0 ≤ ((ji42) : Int) := of_decide_eq_true (by first | (with_reducible assumption) | assumption); have q336 : (ji42) < (l0.length : Int) := of_decide_eq_true (by first | (with_reducible assumption) | assumption); obtain ⟨ad336, e336, hx336_0⟩ := Kd.at_int HR0.out (ji42) p336 q336; obtain rfl : ad331 = ad336 := (by injection e336); replace hx336_0 := (HB.out.cell (World.block_lt_of_cell? w _ hx336_0)).trans hx336_0; replace p336 := eq_true p336; replace q336 := eq_true q336) | (go_at_call 15; (with_reducible refine (abacistref02_Mul.calls k6 (rd l0 x23_6) (rd l0 (ji42)) t337 _ A45.out).mono ?_); rintro e w' ⟨rfl, ⟨nd, rfl⟩⟩; (try first | exact ⟨rfl, _, World.drewN_drewN _ _ _⟩ | exact ⟨rfl, _, Eq.trans (World.drewN_drewN _ _ _) (congrArg (World.drewN _) (Nat.add_assoc _ _ _))⟩)) | (go_at_call 8; (with_reducible refine (abacistref02_Add.calls x21_6 t337 t338 _ A46.out).mono ?_); rintro e w' ⟨rfl, ⟨nd, rfl⟩⟩; (try first | exact ⟨rfl, _, World.drewN_drewN _ _ _⟩ | exact ⟨rfl, _, Eq.trans (World.drewN_drewN _ _ _) (congrArg (World.drewN _) (Nat.add_assoc _ _ _))⟩); have p339 : 0 ≤ (x23_6 : Int) := of_decide_eq_true (by first | (with_reducible assumption) | assumption); have q339 : x23_6 < (l1.length : Int) := of_decide_eq_true (by first | (with_reducible assumption) | assumption); obtain ⟨ad339, e339, hx339_0⟩ := Kd.at_int HR1.out x23_6 p339 q339; obtain rfl : ad333 = ad339 := (by injection e339); replace hx339_0 := (HB.out.cell (World.block_lt_of_cell? w _ hx339_0)).trans hx339_0; replace p339 := eq_true p339; replace q339 := eq_true q339; have p340 : 0 ≤ (x23_6 : Int) := of_decide_eq_true (by first | (with_reducible assumption) | assumption); have q340 : x23_6 < (l1.length : Int) := of_decide_eq_true (by first | (with_reducible assumption) | assumption); obtain ⟨ad340, e340, hx340_0⟩ := Kd.at_int HR1.out x23_6 p340 q340; obtain rfl : ad333 = ad340 := (by injection e340); replace hx340_0 := (HB.out.cell (World.block_lt_of_cell? w _ hx340_0)).trans hx340_0; replace p340 := eq_true p340; replace q340 := eq_true q340) | (go_at_call 15; (with_reducible refine (abacistref02_Mul.calls k6 (rd l1 x23_6) (rd l1 x23_6) t341 _ A47.out).mono ?_); rintro e w' ⟨rfl, ⟨nd, rfl⟩⟩; (try first | exact ⟨rfl, _, World.drewN_drewN _ _ _⟩ | exact ⟨rfl, _, Eq.trans (World.drewN_drewN _ _ _) (congrArg (World.drewN _) (Nat.add_assoc _ _ _))⟩)) | (go_at_call 8; (with_reducible refine (abacistref02_Add.calls x22_6 t341 t342 _ A48.out).mono ?_); rintro e w' ⟨rfl, ⟨nd, rfl⟩⟩; (try first | exact ⟨rfl, _, World.drewN_drewN _ _ _⟩ | exact ⟨rfl, _, Eq.trans (World.drewN_drewN _ _ _) (congrArg (World.drewN _) (Nat.add_assoc _ _ _))⟩))); try go_wp2_with (first | (go_at_call 8; (with_reducible refine (abacistref02_Add.calls x19_6 (rd l0 x23_6) t332 _ A38.out).mono ?_); rintro e w' ⟨rfl, ⟨nd, rfl⟩⟩; (try first | exact ⟨rfl, _, World.drewN_drewN _ _ _⟩ | exact ⟨rfl, _, Eq.trans (World.drewN_drewN _ _ _) (congrArg (World.drewN _) (Nat.add_assoc _ _ _))⟩); have p333 : 0 ≤ (x23_6 : Int) := of_decide_eq_true (by first | (with_reducible assumption) | assumption); have q333 : x23_6 < (l1.length : Int) := of_decide_eq_true (by first | (with_reducible assumption) | assumption); obtain ⟨ad333, e333, hx333_0⟩ := Kd.at_int HR1.out x23_6 p333 q333; cases e333; replace hx333_0 := (HB.out.cell (World.block_lt_of_cell? w _ hx333_0)).trans hx333_0; replace p333 := eq_true p333; replace q333 := eq_true q333) | (go_at_call 8; (with_reducible refine (abacistref02_Add.calls x20_6 (rd l1 x23_6) t334 _ A40.out).mono ?_); rintro e w' ⟨rfl, ⟨nd, rfl⟩⟩; (try first | exact ⟨rfl, _, World.drewN_drewN _ _ _⟩ | exact ⟨rfl, _, Eq.trans (World.drewN_drewN _ _ _) (congrArg (World.drewN _) (Nat.add_assoc _ _ _))⟩); have p335 : 0 ≤ (x23_6 : Int) := of_decide_eq_true (by first | (with_reducible assumption) | assumption); have q335 : x23_6 < (l0.length : Int) := of_decide_eq_true (by first | (with_reducible assumption) | assumption); obtain ⟨ad335, e335, hx335_0⟩ := Kd.at_int HR0.out x23_6 p335 q335; obtain rfl : ad331 = ad335 := (by injection e335); replace hx335_0 := (HB.out.cell (World.block_lt_of_cell? w _ hx335_0)).trans hx335_0; replace p335 := eq_true p335; replace q335 := eq_true q335; have p336 : 0 ≤ ((ji42) : Int) := of_decide_eq_true (by first | (with_reducible assumption) | assumption); have q336 : (ji42) < (l0.length : Int) := of_decide_eq_true (by first | (with_reducible assumption) | assumption); obtain ⟨ad336, e336, hx336_0⟩ := Kd.at_int HR0.out (ji42) p336 q336; obtain rfl : ad331 = ad336 := (by injection e336); replace hx336_0 := (HB.out.cell (World.block_lt_of_cell? w _ hx336_0)).trans hx336_0; replace p336 := eq_true p336; replace q336 := eq_true q336) | (go_at_call 15; (with_reducible refine (abacistref02_Mul.calls k6 (rd l0 x23_6) (rd l0 (ji42)) t337 _ A45.out).mono ?_); rintro e w' ⟨rfl, ⟨nd, rfl⟩⟩; (try first | exact ⟨rfl, _, World.drewN_drewN _ _ _⟩ | exact ⟨rfl, _, Eq.trans (World.drewN_drewN _ _ _) (congrArg (World.drewN _) (Nat.add_assoc _ _ _))⟩)) | (go_at_call 8; (with_reducible refine (abacistref02_Add.calls x21_6 t337 t338 _ A46.out).mono ?_); rintro e w' ⟨rfl, ⟨nd, rfl⟩⟩; (try first | exact ⟨rfl, _, World.drewN_drewN _ _ _⟩ | exact ⟨rfl, _, Eq.trans (World.drewN_drewN _ _ _) (congrArg (World.drewN _) (Nat.add_assoc _ _ _))⟩); have p339 : 0 ≤ (x23_6 : Int) := of_decide_eq_true (by first | (with_reducible assumption) | assumption); have q339 : x23_6 < (l1.length : Int) := of_decide_eq_true (by first | (with_reducible assumption) | assumption); obtain ⟨ad339, e339, hx339_0⟩ := Kd.at_int HR1.out x23_6 p339 q339; obtain rfl : ad333 = ad339 := (by injection e339); replace hx339_0 := (HB.out.cell (World.block_lt_of_cell? w _ hx339_0)).trans hx339_0; replace p339 := eq_true p339; replace q339 := eq_true q339; have p340 : 0 ≤ (x23_6 : Int) := of_decide_eq_true (by first | (with_reducible assumption) | assumption); have q340 : x23_6 < (l1.length : Int) := of_decide_eq_true (by first | (with_reducible assumption) | assumption); obtain ⟨ad340, e340, hx340_0⟩ := Kd.at_int HR1.out x23_6 p340 q340; obtain rfl : ad333 = ad340 := (by injection e340); replace hx340_0 := (HB.out.cell (World.block_lt_of_cell? w _ hx340_0)).trans hx340_0; replace p340 := eq_true p340; replace q340 := eq_true q340) | (go_at_call 15; (with_reducible refine (abacistref02_Mul.calls k6 (rd l1 x23_6) (rd l1 x23_6) t341 _ A47.out).mono ?_); rintro e w' ⟨rfl, ⟨nd, rfl⟩⟩; (try first | exact ⟨rfl, _, World.drewN_drewN _ _ _⟩ | exact ⟨rfl, _, Eq.trans (World.drewN_drewN _ _ _) (congrArg (World.drewN _) (Nat.add_assoc _ _ _))⟩)) | (go_at_call 8; (with_reducible refine (abacistref02_Add.calls x22_6 t341 t342 _ A48.out).mono ?_); rintro e w' ⟨rfl, ⟨nd, rfl⟩⟩; (try first | exact ⟨rfl, _, World.drewN_drewN _ _ _⟩ | exact ⟨rfl, _, Eq.trans (World.drewN_drewN _ _ _) (congrArg (World.drewN _) (Nat.add_assoc _ _ _))⟩))))
                                                                  (first | go_roundg k6 | (simp only [add_plain] at *; go_roundg k6))
                                                                  case measure => have := HJ6.out; have := HJ15.out; have := HJ25.out; have := HJ29.out; have := HJ32.out; have := HK6.out; omega
                                                                  case rel => exact ⟨(t332), (t334), (t338), (t342), (wrap64 (x23_6 + 1)), (by first | rfl | (simp; done) | (simp [*]; done)), (by first | rfl | (simp; done) | (simp [*]; done)), (by first | rfl | (simp; done) | (simp [*]; done)), (by first | rfl | (simp; done) | (simp [*]; done)), (by first | rfl | (simp; done) | (simp [*]; done)), H', ⟨by have := HJ6.out; have := HJ15.out; have := HJ25.out; have := HJ29.out; have := HJ32.out; have := HK6.out; omega⟩, ⟨by repeat (first | (with_reducible first | exact HB.out | apply below_alloc | apply pw_below_drewN | apply below_drew1) | exact HB.out)⟩⟩
                                                              · rw [if_neg c44] at H
                                                                exact absurd H (by simp)
                                                          · rw [if_neg c43] at H
                                                            exact absurd H (by simp)
                                                  · rw [if_neg c39] at H
                                                    exact absurd H (by simp)
                                              · rw [if_neg c37] at H
                                                exact absurd H (by simp)
                                          · as_aux_lemma =>
                                              rw [if_neg c36] at H
                                              have c36b0 : decide (x23_6 < (l0.length : Int)) = false := decide_eq_false c36
                                              clear c36
                                              have HC49 := Aside0.mk H
                                              clear H
                                              go_upto_if 169 with (fail)
                                              repeat (go_quiet (fail); go_upto_if 169 with (fail))
                                              go_cut [19, 20] (fun v19 v20 wc => ∃ (kq : Nat) (x19_48 : Int) (x20_48 : Int), v19 = .int .u64 x19_48 ∧ v20 = .int .u64 x20_48 ∧ Aside0 (abacistlaw28_ProofTells.j6 kq l0 l1 a2 a3 t319 t320 t321 t322 t326 t327 t328 t330 x19_48 x20_48 x21_6 x22_6 = some r) ∧ Aside0 (kq ≤ k6) ∧ Aside0 (Below w.heap.size w wc))
                                              case first =>
                                                have H := HC49.out
                                                clear HC49
                                                by_cases c50 : a2 = 1
                                                · rw [if_pos c50] at H
                                                  have c50b0 : (a2 == 1) = true := beq_iff_eq.mpr c50
                                                  have c50b1 : (a2 != 1) = false := bne_eq_false_iff_eq.mpr c50
                                                  clear c50
                                                  (first | rw [c50b0] | (simp only [i64_w, i32_w]; rw [c50b0]) | skip)
                                                  replace H := Option.bind_eq_some_iff.mp H
                                                  obtain ⟨t343, A510, H⟩ := H
                                                  replace H : ((abacistref02_Mul.f k6 x19_6 t343).bind fun t344 => (abacistlaw28_ProofTells.j6 k6 l0 l1 a2 a3 t319 t320 t321 t322 t326 t327 t328 t330 t344 x20_6 x21_6 x22_6)) = some r := H
                                                  have A51 := Aside0.mk A510
                                                  clear A510
                                                  replace H := Option.bind_eq_some_iff.mp H
                                                  obtain ⟨t344, A520, H⟩ := H
                                                  replace H : (abacistlaw28_ProofTells.j6 k6 l0 l1 a2 a3 t319 t320 t321 t322 t326 t327 t328 t330 t344 x20_6 x21_6 x22_6) = some r := H
                                                  have A52 := Aside0.mk A520
                                                  clear A520
                                                  have H' := Aside0.mk H
                                                  clear H
                                                  go_wp2_with (first | (go_at_call 16; (with_reducible refine (abacistref08_Share.calls k6 t330 t343 _ A51.out).mono ?_); rintro e w' ⟨rfl, ⟨nd, rfl⟩⟩; (try first | exact ⟨rfl, _, World.drewN_drewN _ _ _⟩ | exact ⟨rfl, _, Eq.trans (World.drewN_drewN _ _ _) (congrArg (World.drewN _) (Nat.add_assoc _ _ _))⟩)) | (go_at_call 15; (with_reducible refine (abacistref02_Mul.calls k6 x19_6 t343 t344 _ A52.out).mono ?_); rintro e w' ⟨rfl, ⟨nd, rfl⟩⟩; (try first | exact ⟨rfl, _, World.drewN_drewN _ _ _⟩ | exact ⟨rfl, _, Eq.trans (World.drewN_drewN _ _ _) (congrArg (World.drewN _) (Nat.add_assoc _ _ _))⟩)))
                                                  repeat (go_quiet (first | (go_at_call 16; (with_reducible refine (abacistref08_Share.calls k6 t330 t343 _ A51.out).mono ?_); rintro e w' ⟨rfl, ⟨nd, rfl⟩⟩; (try first | exact ⟨rfl, _, World.drewN_drewN _ _ _⟩ | exact ⟨rfl, _, Eq.trans (World.drewN_drewN _ _ _) (congrArg (World.drewN _) (Nat.add_assoc _ _ _))⟩)) | (go_at_call 15; (with_reducible refine (abacistref02_Mul.calls k6 x19_6 t343 t344 _ A52.out).mono ?_); rintro e w' ⟨rfl, ⟨nd, rfl⟩⟩; (try first | exact ⟨rfl, _, World.drewN_drewN _ _ _⟩ | exact ⟨rfl, _, Eq.trans (World.drewN_drewN _ _ _) (congrArg (World.drewN _) (Nat.add_assoc _ _ _))⟩))); try go_wp2_with (first | (go_at_call 16; (with_reducible refine (abacistref08_Share.calls k6 t330 t343 _ A51.out).mono ?_); rintro e w' ⟨rfl, ⟨nd, rfl⟩⟩; (try first | exact ⟨rfl, _, World.drewN_drewN _ _ _⟩ | exact ⟨rfl, _, Eq.trans (World.drewN_drewN _ _ _) (congrArg (World.drewN _) (Nat.add_assoc _ _ _))⟩)) | (go_at_call 15; (with_reducible refine (abacistref02_Mul.calls k6 x19_6 t343 t344 _ A52.out).mono ?_); rintro e w' ⟨rfl, ⟨nd, rfl⟩⟩; (try first | exact ⟨rfl, _, World.drewN_drewN _ _ _⟩ | exact ⟨rfl, _, Eq.trans (World.drewN_drewN _ _ _) (congrArg (World.drewN _) (Nat.add_assoc _ _ _))⟩))))
                                                  go_meet
                                                  case rel => exact ⟨_, (t344), (x20_6), (by first | rfl | (simp; done) | (simp [*]; done)), (by first | rfl | (simp; done) | (simp [*]; done)), H', ⟨by have := HJ6.out; have := HJ15.out; have := HJ25.out; have := HJ29.out; have := HJ32.out; have := HK6.out; first | omega | exact Nat.le_refl _⟩, ⟨by repeat (first | (with_reducible first | exact HB.out | apply below_alloc | apply pw_below_drewN | apply below_drew1) | exact HB.out)⟩⟩
                                                · rw [if_neg c50] at H
                                                  have c50b0 : (a2 == 1) = false := beq_eq_false_iff_ne.mpr c50
                                                  have c50b1 : (a2 != 1) = true := bne_iff_ne.mpr c50
                                                  (first | rw [c50b0] | (simp only [i64_w, i32_w]; rw [c50b0]) | skip)
                                                  replace H := Option.bind_eq_some_iff.mp H
                                                  obtain ⟨t345, A530, H⟩ := H
                                                  replace H : ((abacistref02_Mul.f k6 x20_6 t345).bind fun t346 => (abacistlaw28_ProofTells.j6 k6 l0 l1 a2 a3 t319 t320 t321 t322 t326 t327 t328 t330 x19_6 t346 x21_6 x22_6)) = some r := H
                                                  have A53 := Aside0.mk A530
                                                  clear A530
                                                  replace H := Option.bind_eq_some_iff.mp H
                                                  obtain ⟨t346, A540, H⟩ := H
                                                  replace H : (abacistlaw28_ProofTells.j6 k6 l0 l1 a2 a3 t319 t320 t321 t322 t326 t327 t328 t330 x19_6 t346 x21_6 x22_6) = some r := H
                                                  have A54 := Aside0.mk A540
                                                  clear A540
                                                  have H' := Aside0.mk H
                                                  clear H
                                                  go_wp2_with (first | (go_at_call 16; (with_reducible refine (abacistref08_Share.calls k6 t330 t345 _ A53.out).mono ?_); rintro e w' ⟨rfl, ⟨nd, rfl⟩⟩; (try first | exact ⟨rfl, _, World.drewN_drewN _ _ _⟩ | exact ⟨rfl, _, Eq.trans (World.drewN_drewN _ _ _) (congrArg (World.drewN _) (Nat.add_assoc _ _ _))⟩)) | (go_at_call 15; (with_reducible refine (abacistref02_Mul.calls k6 x20_6 t345 t346 _ A54.out).mono ?_); rintro e w' ⟨rfl, ⟨nd, rfl⟩⟩; (try first | exact ⟨rfl, _, World.drewN_drewN _ _ _⟩ | exact ⟨rfl, _, Eq.trans (World.drewN_drewN _ _ _) (congrArg (World.drewN _) (Nat.add_assoc _ _ _))⟩)))
                                                  repeat (go_quiet (first | (go_at_call 16; (with_reducible refine (abacistref08_Share.calls k6 t330 t345 _ A53.out).mono ?_); rintro e w' ⟨rfl, ⟨nd, rfl⟩⟩; (try first | exact ⟨rfl, _, World.drewN_drewN _ _ _⟩ | exact ⟨rfl, _, Eq.trans (World.drewN_drewN _ _ _) (congrArg (World.drewN _) (Nat.add_assoc _ _ _))⟩)) | (go_at_call 15; (with_reducible refine (abacistref02_Mul.calls k6 x20_6 t345 t346 _ A54.out).mono ?_); rintro e w' ⟨rfl, ⟨nd, rfl⟩⟩; (try first | exact ⟨rfl, _, World.drewN_drewN _ _ _⟩ | exact ⟨rfl, _, Eq.trans (World.drewN_drewN _ _ _) (congrArg (World.drewN _) (Nat.add_assoc _ _ _))⟩))); try go_wp2_with (first | (go_at_call 16; (with_reducible refine (abacistref08_Share.calls k6 t330 t345 _ A53.out).mono ?_); rintro e w' ⟨rfl, ⟨nd, rfl⟩⟩; (try first | exact ⟨rfl, _, World.drewN_drewN _ _ _⟩ | exact ⟨rfl, _, Eq.trans (World.drewN_drewN _ _ _) (congrArg (World.drewN _) (Nat.add_assoc _ _ _))⟩)) | (go_at_call 15; (with_reducible refine (abacistref02_Mul.calls k6 x20_6 t345 t346 _ A54.out).mono ?_); rintro e w' ⟨rfl, ⟨nd, rfl⟩⟩; (try first | exact ⟨rfl, _, World.drewN_drewN _ _ _⟩ | exact ⟨rfl, _, Eq.trans (World.drewN_drewN _ _ _) (congrArg (World.drewN _) (Nat.add_assoc _ _ _))⟩))))
                                                  go_meet
                                                  case rel => exact ⟨_, (x19_6), (t346), (by first | rfl | (simp; done) | (simp [*]; done)), (by first | rfl | (simp; done) | (simp [*]; done)), H', ⟨by have := HJ6.out; have := HJ15.out; have := HJ25.out; have := HJ29.out; have := HJ32.out; have := HK6.out; first | omega | exact Nat.le_refl _⟩, ⟨by repeat (first | (with_reducible first | exact HB.out | apply below_alloc | apply pw_below_drewN | apply below_drew1) | exact HB.out)⟩⟩
                                              case rest =>
                                                clear HC49
                                                try clear c1
                                                try clear c2
                                                try clear p2
                                                try clear c3
                                                try clear p3
                                                try clear q3
                                                try clear hx3
                                                try clear c4
                                                try clear c5
                                                try clear c6
                                                try clear p6
                                                try clear c9
                                                try clear c9b0
                                                try clear c9b1
                                                try clear c10
                                                try clear c24
                                                try clear c24b0
                                                try clear c24b1
                                                try clear c24b2
                                                try clear c25
                                                try clear c25b0
                                                try clear c27
                                                try clear c27b0
                                                try clear c27b1
                                                try clear c28
                                                try clear c28b0
                                                try clear c28b1
                                                try clear c29
                                                try clear c31
                                                try clear c31b0
                                                try clear c31b1
                                                try clear c32
                                                try clear c32b0
                                                try clear c32b1
                                                try clear p33
                                                try clear q33
                                                try clear hx33
                                                try clear c34
                                                try clear p34
                                                try clear q34
                                                try clear hx34
                                                try clear c35
                                                try clear c35b0
                                                try clear c35b1
                                                try clear c36
                                                try clear c36b0
                                                try clear c37
                                                try clear c37b0
                                                try clear c39
                                                try clear c39b0
                                                try clear c41
                                                try clear c41b0
                                                try clear c41b1
                                                try clear c41b2
                                                try clear c43
                                                try clear c43b0
                                                try clear c44
                                                try clear c44b0
                                                try clear c50
                                                try clear c50b0
                                                try clear c50b1
                                                try clear hx331_0
                                                try clear hx333_0
                                                try clear hx335_0
                                                try clear hx336_0
                                                try clear hx339_0
                                                try clear hx340_0
                                                try clear p2
                                                try clear p331
                                                try clear p333
                                                try clear p335
                                                try clear p336
                                                try clear p339
                                                try clear p340
                                                try clear q331
                                                try clear q333
                                                try clear q335
                                                try clear q336
                                                try clear q339
                                                try clear q340
                                                obtain ⟨kq, x19_48, x20_48, rfl, rfl, HA, HJ48, HB⟩ := hcut
                                                cases kq with
                                                | zero => exact absurd HA.out (by simp [abacistlaw28_ProofTells.j6])
                                                | succ kj48 =>
                                                  have H := HA.out
                                                  clear HA
                                                  simp only [abacistlaw28_ProofTells.j6] at H
                                                  replace H := Option.bind_eq_some_iff.mp H
                                                  obtain ⟨t347, A550, H⟩ := H
                                                  replace H : ((abacistref08_Transform.f kj48 l1 t330 (wrap64 (1 - a2))).bind fun t348 => ((abacistref07_At.f kj48 t348 a3).bind fun t351 => (if t320 = 0 then (if t322 = 0 then (if t327 = 0 then (if (t319 == (t347 == t351)) = true then (if (t326 == (t347 == t351)) = true then (if 0 < (l1.length : Int) then ((abacistref02_Of.f (rd l1 0)).bind fun t353 => (if x19_48 = t353 then (if 0 < (l0.length : Int) then ((abacistref02_Of.f (rd l0 0)).bind fun t355 => (if (t321 == (x20_48 == t355)) = true then ((abacistref02_Mul.f kj48 x21_6 (IntKind.u64.wrap ((l0.length : Int)))).bind fun t356 => (some (t328 == (t356 == x22_6)))) else (some false))) else (none)) else (if (t321 == false) = true then ((abacistref02_Mul.f kj48 x21_6 (IntKind.u64.wrap ((l0.length : Int)))).bind fun t357 => (some (t328 == (t357 == x22_6)))) else (some false)))) else (none)) else (some false)) else (some false)) else (some false)) else (some false)) else (some false)))) = some r := H
                                                  have A55 := Aside0.mk A550
                                                  clear A550
                                                  replace H := Option.bind_eq_some_iff.mp H
                                                  obtain ⟨t348, A560, H⟩ := H
                                                  replace H : ((abacistref07_At.f kj48 t348 a3).bind fun t351 => (if t320 = 0 then (if t322 = 0 then (if t327 = 0 then (if (t319 == (t347 == t351)) = true then (if (t326 == (t347 == t351)) = true then (if 0 < (l1.length : Int) then ((abacistref02_Of.f (rd l1 0)).bind fun t353 => (if x19_48 = t353 then (if 0 < (l0.length : Int) then ((abacistref02_Of.f (rd l0 0)).bind fun t355 => (if (t321 == (x20_48 == t355)) = true then ((abacistref02_Mul.f kj48 x21_6 (IntKind.u64.wrap ((l0.length : Int)))).bind fun t356 => (some (t328 == (t356 == x22_6)))) else (some false))) else (none)) else (if (t321 == false) = true then ((abacistref02_Mul.f kj48 x21_6 (IntKind.u64.wrap ((l0.length : Int)))).bind fun t357 => (some (t328 == (t357 == x22_6)))) else (some false)))) else (none)) else (some false)) else (some false)) else (some false)) else (some false)) else (some false))) = some r := H
                                                  have A56 := Aside0.mk A560
                                                  clear A560
                                                  replace H := Option.bind_eq_some_iff.mp H
                                                  obtain ⟨t351, A570, H⟩ := H
                                                  replace H : (if t320 = 0 then (if t322 = 0 then (if t327 = 0 then (if (t319 == (t347 == t351)) = true then (if (t326 == (t347 == t351)) = true then (if 0 < (l1.length : Int) then ((abacistref02_Of.f (rd l1 0)).bind fun t353 => (if x19_48 = t353 then (if 0 < (l0.length : Int) then ((abacistref02_Of.f (rd l0 0)).bind fun t355 => (if (t321 == (x20_48 == t355)) = true then ((abacistref02_Mul.f kj48 x21_6 (IntKind.u64.wrap ((l0.length : Int)))).bind fun t356 => (some (t328 == (t356 == x22_6)))) else (some false))) else (none)) else (if (t321 == false) = true then ((abacistref02_Mul.f kj48 x21_6 (IntKind.u64.wrap ((l0.length : Int)))).bind fun t357 => (some (t328 == (t357 == x22_6)))) else (some false)))) else (none)) else (some false)) else (some false)) else (some false)) else (some false)) else (some false)) = some r := H
                                                  have A57 := Aside0.mk A570
                                                  clear A570
                                                  by_cases c58 : t320 = 0
                                                  · as_aux_lemma =>
                                                      rw [if_pos c58] at H
                                                      have c58b0 : (t320 == 0) = true := beq_iff_eq.mpr c58
                                                      have c58b1 : (t320 != 0) = false := bne_eq_false_iff_eq.mpr c58
                                                      clear c58
                                                      by_cases c59 : t322 = 0
                                                      · as_aux_lemma =>
                                                          rw [if_pos c59] at H
                                                          have c59b0 : (t322 == 0) = true := beq_iff_eq.mpr c59
                                                          have c59b1 : (t322 != 0) = false := bne_eq_false_iff_eq.mpr c59
                                                          clear c59
                                                          by_cases c60 : t327 = 0
                                                          · as_aux_lemma =>
                                                              rw [if_pos c60] at H
                                                              have c60b0 : (t327 == 0) = true := beq_iff_eq.mpr c60
                                                              have c60b1 : (t327 != 0) = false := bne_eq_false_iff_eq.mpr c60
                                                              clear c60
                                                              by_cases c61 : (t319 == (t347 == t351)) = true
                                                              · as_aux_lemma =>
                                                                  rw [if_pos c61] at H
                                                                  have c61b0 : (t319 == (t347 == t351)) = true := c61
                                                                  (try (have c61b1 : decide (t319 = (t347 == t351)) = true := by simpa using c61))
                                                                  (try (have c61b2 : (t319 == (t347 == t351)) = true := by simpa using c61))
                                                                  clear c61
                                                                  by_cases c62 : (t326 == (t347 == t351)) = true
                                                                  · as_aux_lemma =>
                                                                      rw [if_pos c62] at H
                                                                      have c62b0 : (t326 == (t347 == t351)) = true := c62
                                                                      (try (have c62b1 : decide (t326 = (t347 == t351)) = true := by simpa using c62))
                                                                      (try (have c62b2 : (t326 == (t347 == t351)) = true := by simpa using c62))
                                                                      clear c62
                                                                      by_cases c63 : 0 < (l1.length : Int)
                                                                      · as_aux_lemma =>
                                                                          rw [if_pos c63] at H
                                                                          have c63b0 : decide (0 < (l1.length : Int)) = true := decide_eq_true c63
                                                                          have c63b1 : decide (0 < l1.length) = true := decide_eq_true (by omega)
                                                                          clear c63
                                                                          replace H := Option.bind_eq_some_iff.mp H
                                                                          obtain ⟨t353, A640, H⟩ := H
                                                                          replace H : (if x19_48 = t353 then (if 0 < (l0.length : Int) then ((abacistref02_Of.f (rd l0 0)).bind fun t355 => (if (t321 == (x20_48 == t355)) = true then ((abacistref02_Mul.f kj48 x21_6 (IntKind.u64.wrap ((l0.length : Int)))).bind fun t356 => (some (t328 == (t356 == x22_6)))) else (some false))) else (none)) else (if (t321 == false) = true then ((abacistref02_Mul.f kj48 x21_6 (IntKind.u64.wrap ((l0.length : Int)))).bind fun t357 => (some (t328 == (t357 == x22_6)))) else (some false))) = some r := H
                                                                          have A64 := Aside0.mk A640
                                                                          clear A640
                                                                          by_cases c65 : x19_48 = t353
                                                                          · as_aux_lemma =>
                                                                              rw [if_pos c65] at H
                                                                              have c65b0 : (x19_48 == t353) = true := beq_iff_eq.mpr c65
                                                                              have c65b1 : (x19_48 != t353) = false := bne_eq_false_iff_eq.mpr c65
                                                                              clear c65
                                                                              by_cases c66 : 0 < (l0.length : Int)
                                                                              · as_aux_lemma =>
                                                                                  rw [if_pos c66] at H
                                                                                  have c66b0 : decide (0 < (l0.length : Int)) = true := decide_eq_true c66
                                                                                  have c66b1 : decide (0 < l0.length) = true := decide_eq_true (by omega)
                                                                                  clear c66
                                                                                  replace H := Option.bind_eq_some_iff.mp H
                                                                                  obtain ⟨t355, A670, H⟩ := H
                                                                                  replace H : (if (t321 == (x20_48 == t355)) = true then ((abacistref02_Mul.f kj48 x21_6 (IntKind.u64.wrap ((l0.length : Int)))).bind fun t356 => (some (t328 == (t356 == x22_6)))) else (some false)) = some r := H
                                                                                  have A67 := Aside0.mk A670
                                                                                  clear A670
                                                                                  by_cases c68 : (t321 == (x20_48 == t355)) = true
                                                                                  · rw [if_pos c68] at H
                                                                                    have c68b0 : (t321 == (x20_48 == t355)) = true := c68
                                                                                    (try (have c68b1 : decide (t321 = (x20_48 == t355)) = true := by simpa using c68))
                                                                                    (try (have c68b2 : (t321 == (x20_48 == t355)) = true := by simpa using c68))
                                                                                    clear c68
                                                                                    replace H := Option.bind_eq_some_iff.mp H
                                                                                    obtain ⟨t356, A690, H⟩ := H
                                                                                    replace H : (some (t328 == (t356 == x22_6))) = some r := H
                                                                                    have A69 := Aside0.mk A690
                                                                                    clear A690
                                                                                    obtain rfl := Option.some.inj H
                                                                                    go_wp2_with (first | (go_at_call 17; (with_reducible refine (abacistref07_At.calls kj48 _ _ l0 a3 t347 _ ?side1 ?side2 A55.out).mono ?_); (case side1 => repeat (first | exact (Kd.C_below HR0.out HB.out) | (with_reducible refine Kd.C_alloc ?_ _) | (with_reducible refine Kd.C_drewN ?_ _) | (with_reducible refine Kd.C_drew ?_))); (case side2 => exact HC0.out); rintro e w' ⟨rfl, ⟨nd, rfl⟩⟩; (try first | exact ⟨rfl, _, World.drewN_drewN _ _ _⟩ | exact ⟨rfl, _, Eq.trans (World.drewN_drewN _ _ _) (congrArg (World.drewN _) (Nat.add_assoc _ _ _))⟩)) | (go_at_call 11; (with_reducible refine (abacistref08_Transform.calls kj48 _ _ l1 t330 (wrap64 (1 - a2)) t348 _ ?side1 ?side2 A56.out).mono ?_); (case side1 => repeat (first | exact (Kd.C_below HR1.out (by repeat (first | (with_reducible first | exact HB.out | apply below_alloc | apply pw_below_drewN | apply below_drew1) | exact HB.out))) | (with_reducible refine Kd.C_alloc ?_ _) | (with_reducible refine Kd.C_drewN ?_ _) | (with_reducible refine Kd.C_drew ?_))); (case side2 => exact HC1.out); rintro e w70 ⟨v349, rfl, ho0, hb⟩; have n0_ := Aside0.mk (Kd.R_lower ho0 (below_size (by repeat (first | (with_reducible first | exact HB.out | apply below_alloc | apply pw_below_drewN | apply below_drew1) | exact HB.out)))); have n1_ := Aside0.mk (below_step (by repeat (first | (with_reducible first | exact HB.out | apply below_alloc | apply pw_below_drewN | apply below_drew1) | exact HB.out)) hb); clear HB; have HO350 := n0_; have HB := n1_; clear n0_ n1_; (try clear hb); (try clear hb2); (try clear hk); (try clear hi); (try clear ho0); obtain ⟨Ao71, co71, eo71⟩ := Kd.R_slice HO350.out; subst eo71) | (go_at_call 17; (with_reducible refine (abacistref07_At.calls kj48 _ _ t348 a3 t351 _ ?side1 ?side2 A57.out).mono ?_); (case side1 => repeat (first | exact (Kd.R_reads' HO350.out).2.2 | (with_reducible refine Kd.C_alloc ?_ _) | (with_reducible refine Kd.C_drewN ?_ _) | (with_reducible refine Kd.C_drew ?_))); (case side2 => exact (Kd.R_reads' HO350.out).2.1); rintro e w' ⟨rfl, ⟨nd, rfl⟩⟩; (try first | exact ⟨rfl, _, World.drewN_drewN _ _ _⟩ | exact ⟨rfl, _, Eq.trans (World.drewN_drewN _ _ _) (congrArg (World.drewN _) (Nat.add_assoc _ _ _))⟩); have p352 : 0 ≤ (0 : Int) := (by omega); have q352 : 0 < (l1.length : Int) := of_decide_eq_true (by first | (with_reducible assumption) | assumption); obtain ⟨ad352, e352, hx352_0⟩ := Kd.at_int HR1.out 0 p352 q352; cases e352; have qi352 : (0 < l1.length) = True := eq_true (by omega); (try rw [show ((0 : Int)).toNat = 0 from rfl] at hx352_0); (try rw [Addr.add_zero'] at hx352_0); replace hx352_0 := (HB.out.cell (World.block_lt_of_cell? w _ hx352_0)).trans hx352_0; replace p352 := eq_true p352; replace q352 := eq_true q352) | (go_at_call 18; (with_reducible refine (abacistref02_Of.calls (rd l1 0) t353 _ A64.out).mono ?_); rintro e w' ⟨rfl, ⟨nd, rfl⟩⟩; (try first | exact ⟨rfl, _, World.drewN_drewN _ _ _⟩ | exact ⟨rfl, _, Eq.trans (World.drewN_drewN _ _ _) (congrArg (World.drewN _) (Nat.add_assoc _ _ _))⟩); have p354 : 0 ≤ (0 : Int) := (by omega); have q354 : 0 < (l0.length : Int) := of_decide_eq_true (by first | (with_reducible assumption) | assumption); obtain ⟨ad354, e354, hx354_0⟩ := Kd.at_int HR0.out 0 p354 q354; cases e354; have qi354 : (0 < l0.length) = True := eq_true (by omega); (try rw [show ((0 : Int)).toNat = 0 from rfl] at hx354_0); (try rw [Addr.add_zero'] at hx354_0); replace hx354_0 := (HB.out.cell (World.block_lt_of_cell? w _ hx354_0)).trans hx354_0; replace p354 := eq_true p354; replace q354 := eq_true q354) | (go_at_call 18; (with_reducible refine (abacistref02_Of.calls (rd l0 0) t355 _ A67.out).mono ?_); rintro e w' ⟨rfl, ⟨nd, rfl⟩⟩; (try first | exact ⟨rfl, _, World.drewN_drewN _ _ _⟩ | exact ⟨rfl, _, Eq.trans (World.drewN_drewN _ _ _) (congrArg (World.drewN _) (Nat.add_assoc _ _ _))⟩)) | (go_at_call 15; (with_reducible refine (abacistref02_Mul.calls kj48 x21_6 (IntKind.u64.wrap ((l0.length : Int))) t356 _ A69.out).mono ?_); rintro e w' ⟨rfl, ⟨nd, rfl⟩⟩; (try first | exact ⟨rfl, _, World.drewN_drewN _ _ _⟩ | exact ⟨rfl, _, Eq.trans (World.drewN_drewN _ _ _) (congrArg (World.drewN _) (Nat.add_assoc _ _ _))⟩)))
                                                                                    repeat (go_quiet (first | (go_at_call 17; (with_reducible refine (abacistref07_At.calls kj48 _ _ l0 a3 t347 _ ?side1 ?side2 A55.out).mono ?_); (case side1 => repeat (first | exact (Kd.C_below HR0.out HB.out) | (with_reducible refine Kd.C_alloc ?_ _) | (with_reducible refine Kd.C_drewN ?_ _) | (with_reducible refine Kd.C_drew ?_))); (case side2 => exact HC0.out); rintro e w' ⟨rfl, ⟨nd, rfl⟩⟩; (try first | exact ⟨rfl, _, World.drewN_drewN _ _ _⟩ | exact ⟨rfl, _, Eq.trans (World.drewN_drewN _ _ _) (congrArg (World.drewN _) (Nat.add_assoc _ _ _))⟩)) | (go_at_call 11; (with_reducible refine (abacistref08_Transform.calls kj48 _ _ l1 t330 (wrap64 (1 - a2)) t348 _ ?side1 ?side2 A56.out).mono ?_); (case side1 => repeat (first | exact (Kd.C_below HR1.out (by repeat (first | (with_reducible first | exact HB.out | apply below_alloc | apply pw_below_drewN | apply below_drew1) | exact HB.out))) | (with_reducible refine Kd.C_alloc ?_ _) | (with_reducible refine Kd.C_drewN ?_ _) | (with_reducible refine Kd.C_drew ?_))); (case side2 => exact HC1.out); rintro e w70 ⟨v349, rfl, ho0, hb⟩; have n0_ := Aside0.mk (Kd.R_lower ho0 (below_size (by repeat (first | (with_reducible first | exact HB.out | apply below_alloc | apply pw_below_drewN | apply below_drew1) | exact HB.out)))); have n1_ := Aside0.mk (below_step (by repeat (first | (with_reducible first | exact HB.out | apply below_alloc | apply pw_below_drewN | apply below_drew1) | exact HB.out)) hb); clear HB; have HO350 := n0_; have HB := n1_; clear n0_ n1_; (try clear hb); (try clear hb2); (try clear hk); (try clear hi); (try clear ho0); obtain ⟨Ao71, co71, eo71⟩ := Kd.R_slice HO350.out; subst eo71) | (go_at_call 17; (with_reducible refine (abacistref07_At.calls kj48 _ _ t348 a3 t351 _ ?side1 ?side2 A57.out).mono ?_); (case side1 => repeat (first | exact (Kd.R_reads' HO350.out).2.2 | (with_reducible refine Kd.C_alloc ?_ _) | (with_reducible refine Kd.C_drewN ?_ _) | (with_reducible refine Kd.C_drew ?_))); (case side2 => exact (Kd.R_reads' HO350.out).2.1); rintro e w' ⟨rfl, ⟨nd, rfl⟩⟩; (try first | exact ⟨rfl, _, World.drewN_drewN _ _ _⟩ | exact ⟨rfl, _, Eq.trans (World.drewN_drewN _ _ _) (congrArg (World.drewN _) (Nat.add_assoc _ _ _))⟩); have p352 : 0 ≤ (0 : Int) := (by omega); have q352 : 0 < (l1.length : Int) := of_decide_eq_true (by first | (with_reducible assumption) | assumption); obtain ⟨ad352, e352, hx352_0⟩ := Kd.at_int HR1.out 0 p352 q352; cases e352; have qi352 : (0 < l1.length) = True := eq_true (by omega); (try rw [show ((0 : Int)).toNat = 0 from rfl] at hx352_0); (try rw [Addr.add_zero'] at hx352_0); replace hx352_0 := (HB.out.cell (World.block_lt_of_cell? w _ hx352_0)).trans hx352_0; replace p352 := eq_true p352; replace q352 := eq_true q352) | (go_at_call 18; (with_reducible refine (abacistref02_Of.calls (rd l1 0) t353 _ A64.out).mono ?_); rintro e w' ⟨rfl, ⟨nd, rfl⟩⟩; (try first | exact ⟨rfl, _, World.drewN_drewN _ _ _⟩ | exact ⟨rfl, _, Eq.trans (World.drewN_drewN _ _ _) (congrArg (World.drewN _) (Nat.add_assoc _ _ _))⟩); have p354 : 0 ≤ (0 : Int) := (by omega); have q354 : 0 < (l0.length : Int) := of_decide_eq_true (by first | (with_reducible assumption) | assumption); obtain ⟨ad354, e354, hx354_0⟩ := Kd.at_int HR0.out 0 p354 q354; cases e354; have qi354 : (0 < l0.length) = True := eq_true (by omega); (try rw [show ((0 : Int)).toNat = 0 from rfl] at hx354_0); (try rw [Addr.add_zero'] at hx354_0); replace hx354_0 := (HB.out.cell (World.block_lt_of_cell? w _ hx354_0)).trans hx354_0; replace p354 := eq_true p354; replace q354 := eq_true q354) | (go_at_call 18; (with_reducible refine (abacistref02_Of.calls (rd l0 0) t355 _ A67.out).mono ?_); rintro e w' ⟨rfl, ⟨nd, rfl⟩⟩; (try first | exact ⟨rfl, _, World.drewN_drewN _ _ _⟩ | exact ⟨rfl, _, Eq.trans (World.drewN_drewN _ _ _) (congrArg (World.drewN _) (Nat.add_assoc _ _ _))⟩)) | (go_at_call 15; (with_reducible refine (abacistref02_Mul.calls kj48 x21_6 (IntKind.u64.wrap ((l0.length : Int))) t356 _ A69.out).mono ?_); rintro e w' ⟨rfl, ⟨nd, rfl⟩⟩; (try first | exact ⟨rfl, _, World.drewN_drewN _ _ _⟩ | exact ⟨rfl, _, Eq.trans (World.drewN_drewN _ _ _) (congrArg (World.drewN _) (Nat.add_assoc _ _ _))⟩))); try go_wp2_with (first | (go_at_call 17; (with_reducible refine (abacistref07_At.calls kj48 _ _ l0 a3 t347 _ ?side1 ?side2 A55.out).mono ?_); (case side1 => repeat (first | exact (Kd.C_below HR0.out HB.out) | (with_reducible refine Kd.C_alloc ?_ _) | (with_reducible refine Kd.C_drewN ?_ _) | (with_reducible refine Kd.C_drew ?_))); (case side2 => exact HC0.out); rintro e w' ⟨rfl, ⟨nd, rfl⟩⟩; (try first | exact ⟨rfl, _, World.drewN_drewN _ _ _⟩ | exact ⟨rfl, _, Eq.trans (World.drewN_drewN _ _ _) (congrArg (World.drewN _) (Nat.add_assoc _ _ _))⟩)) | (go_at_call 11; (with_reducible refine (abacistref08_Transform.calls kj48 _ _ l1 t330 (wrap64 (1 - a2)) t348 _ ?side1 ?side2 A56.out).mono ?_); (case side1 => repeat (first | exact (Kd.C_below HR1.out (by repeat (first | (with_reducible first | exact HB.out | apply below_alloc | apply pw_below_drewN | apply below_drew1) | exact HB.out))) | (with_reducible refine Kd.C_alloc ?_ _) | (with_reducible refine Kd.C_drewN ?_ _) | (with_reducible refine Kd.C_drew ?_))); (case side2 => exact HC1.out); rintro e w70 ⟨v349, rfl, ho0, hb⟩; have n0_ := Aside0.mk (Kd.R_lower ho0 (below_size (by repeat (first | (with_reducible first | exact HB.out | apply below_alloc | apply pw_below_drewN | apply below_drew1) | exact HB.out)))); have n1_ := Aside0.mk (below_step (by repeat (first | (with_reducible first | exact HB.out | apply below_alloc | apply pw_below_drewN | apply below_drew1) | exact HB.out)) hb); clear HB; have HO350 := n0_; have HB := n1_; clear n0_ n1_; (try clear hb); (try clear hb2); (try clear hk); (try clear hi); (try clear ho0); obtain ⟨Ao71, co71, eo71⟩ := Kd.R_slice HO350.out; subst eo71) | (go_at_call 17; (with_reducible refine (abacistref07_At.calls kj48 _ _ t348 a3 t351 _ ?side1 ?side2 A57.out).mono ?_); (case side1 => repeat (first | exact (Kd.R_reads' HO350.out).2.2 | (with_reducible refine Kd.C_alloc ?_ _) | (with_reducible refine Kd.C_drewN ?_ _) | (with_reducible refine Kd.C_drew ?_))); (case side2 => exact (Kd.R_reads' HO350.out).2.1); rintro e w' ⟨rfl, ⟨nd, rfl⟩⟩; (try first | exact ⟨rfl, _, World.drewN_drewN _ _ _⟩ | exact ⟨rfl, _, Eq.trans (World.drewN_drewN _ _ _) (congrArg (World.drewN _) (Nat.add_assoc _ _ _))⟩); have p352 : 0 ≤ (0 : Int) := (by omega); have q352 : 0 < (l1.length : Int) := of_decide_eq_true (by first | (with_reducible assumption) | assumption); obtain ⟨ad352, e352, hx352_0⟩ := Kd.at_int HR1.out 0 p352 q352; cases e352; have qi352 : (0 < l1.length) = True := eq_true (by omega); (try rw [show ((0 : Int)).toNat = 0 from rfl] at hx352_0); (try rw [Addr.add_zero'] at hx352_0); replace hx352_0 := (HB.out.cell (World.block_lt_of_cell? w _ hx352_0)).trans hx352_0; replace p352 := eq_true p352; replace q352 := eq_true q352) | (go_at_call 18; (with_reducible refine (abacistref02_Of.calls (rd l1 0) t353 _ A64.out).mono ?_); rintro e w' ⟨rfl, ⟨nd, rfl⟩⟩; (try first | exact ⟨rfl, _, World.drewN_drewN _ _ _⟩ | exact ⟨rfl, _, Eq.trans (World.drewN_drewN _ _ _) (congrArg (World.drewN _) (Nat.add_assoc _ _ _))⟩); have p354 : 0 ≤ (0 : Int) := (by omega); have q354 : 0 < (l0.length : Int) := of_decide_eq_true (by first | (with_reducible assumption) | assumption); obtain ⟨ad354, e354, hx354_0⟩ := Kd.at_int HR0.out 0 p354 q354; cases e354; have qi354 : (0 < l0.length) = True := eq_true (by omega); (try rw [show ((0 : Int)).toNat = 0 from rfl] at hx354_0); (try rw [Addr.add_zero'] at hx354_0); replace hx354_0 := (HB.out.cell (World.block_lt_of_cell? w _ hx354_0)).trans hx354_0; replace p354 := eq_true p354; replace q354 := eq_true q354) | (go_at_call 18; (with_reducible refine (abacistref02_Of.calls (rd l0 0) t355 _ A67.out).mono ?_); rintro e w' ⟨rfl, ⟨nd, rfl⟩⟩; (try first | exact ⟨rfl, _, World.drewN_drewN _ _ _⟩ | exact ⟨rfl, _, Eq.trans (World.drewN_drewN _ _ _) (congrArg (World.drewN _) (Nat.add_assoc _ _ _))⟩)) | (go_at_call 15; (with_reducible refine (abacistref02_Mul.calls kj48 x21_6 (IntKind.u64.wrap ((l0.length : Int))) t356 _ A69.out).mono ?_); rintro e w' ⟨rfl, ⟨nd, rfl⟩⟩; (try first | exact ⟨rfl, _, World.drewN_drewN _ _ _⟩ | exact ⟨rfl, _, Eq.trans (World.drewN_drewN _ _ _) (congrArg (World.drewN _) (Nat.add_assoc _ _ _))⟩))))
                                                                                    go_ret
                                                                                    exact ⟨by first | rfl | (simp [errW_none, errW_some] <;> rfl) | (simp [*, errW_none, errW_some] <;> rfl), by repeat (first | (with_reducible first | exact HB.out | apply below_alloc | apply pw_below_drewN | apply below_drew1) | exact HB.out)⟩
                                                                                  · rw [if_neg c68] at H
                                                                                    have c68b0 : (t321 == (x20_48 == t355)) = false := by simpa using c68
                                                                                    (try (have c68b1 : decide (t321 = (x20_48 == t355)) = false := by simpa using c68))
                                                                                    (try (have c68b2 : (t321 == (x20_48 == t355)) = false := by simpa using c68))
                                                                                    (try (have c68b3 : ¬ (t321 = (x20_48 == t355)) := by simpa using c68))
                                                                                    clear c68
                                                                                    obtain rfl := Option.some.inj H
                                                                                    exact absurd hr_.out (by decide)
                                                                              · rw [if_neg c66] at H
                                                                                exact absurd H (by simp)
                                                                          · rw [if_neg c65] at H
                                                                            have c65b0 : (x19_48 == t353) = false := beq_eq_false_iff_ne.mpr c65
                                                                            have c65b1 : (x19_48 != t353) = true := bne_iff_ne.mpr c65
                                                                            by_cases c72 : (t321 == false) = true
                                                                            · rw [if_pos c72] at H
                                                                              have c72b0 : (t321 == false) = true := c72
                                                                              (try (have c72b1 : decide (t321 = false) = true := by simpa using c72))
                                                                              (try (have c72b2 : (t321 == false) = true := by simpa using c72))
                                                                              clear c72
                                                                              replace H := Option.bind_eq_some_iff.mp H
                                                                              obtain ⟨t357, A730, H⟩ := H
                                                                              replace H : (some (t328 == (t357 == x22_6))) = some r := H
                                                                              have A73 := Aside0.mk A730
                                                                              clear A730
                                                                              obtain rfl := Option.some.inj H
                                                                              go_wp2_with (first | (go_at_call 17; (with_reducible refine (abacistref07_At.calls kj48 _ _ l0 a3 t347 _ ?side1 ?side2 A55.out).mono ?_); (case side1 => repeat (first | exact (Kd.C_below HR0.out HB.out) | (with_reducible refine Kd.C_alloc ?_ _) | (with_reducible refine Kd.C_drewN ?_ _) | (with_reducible refine Kd.C_drew ?_))); (case side2 => exact HC0.out); rintro e w' ⟨rfl, ⟨nd, rfl⟩⟩; (try first | exact ⟨rfl, _, World.drewN_drewN _ _ _⟩ | exact ⟨rfl, _, Eq.trans (World.drewN_drewN _ _ _) (congrArg (World.drewN _) (Nat.add_assoc _ _ _))⟩)) | (go_at_call 11; (with_reducible refine (abacistref08_Transform.calls kj48 _ _ l1 t330 (wrap64 (1 - a2)) t348 _ ?side1 ?side2 A56.out).mono ?_); (case side1 => repeat (first | exact (Kd.C_below HR1.out (by repeat (first | (with_reducible first | exact HB.out | apply below_alloc | apply pw_below_drewN | apply below_drew1) | exact HB.out))) | (with_reducible refine Kd.C_alloc ?_ _) | (with_reducible refine Kd.C_drewN ?_ _) | (with_reducible refine Kd.C_drew ?_))); (case side2 => exact HC1.out); rintro e w74 ⟨v349, rfl, ho0, hb⟩; have n0_ := Aside0.mk (Kd.R_lower ho0 (below_size (by repeat (first | (with_reducible first | exact HB.out | apply below_alloc | apply pw_below_drewN | apply below_drew1) | exact HB.out)))); have n1_ := Aside0.mk (below_step (by repeat (first | (with_reducible first | exact HB.out | apply below_alloc | apply pw_below_drewN | apply below_drew1) | exact HB.out)) hb); clear HB; have HO350 := n0_; have HB := n1_; clear n0_ n1_; (try clear hb); (try clear hb2); (try clear hk); (try clear hi); (try clear ho0); obtain ⟨Ao75, co75, eo75⟩ := Kd.R_slice HO350.out; subst eo75) | (go_at_call 17; (with_reducible refine (abacistref07_At.calls kj48 _ _ t348 a3 t351 _ ?side1 ?side2 A57.out).mono ?_); (case side1 => repeat (first | exact (Kd.R_reads' HO350.out).2.2 | (with_reducible refine Kd.C_alloc ?_ _) | (with_reducible refine Kd.C_drewN ?_ _) | (with_reducible refine Kd.C_drew ?_))); (case side2 => exact (Kd.R_reads' HO350.out).2.1); rintro e w' ⟨rfl, ⟨nd, rfl⟩⟩; (try first | exact ⟨rfl, _, World.drewN_drewN _ _ _⟩ | exact ⟨rfl, _, Eq.trans (World.drewN_drewN _ _ _) (congrArg (World.drewN _) (Nat.add_assoc _ _ _))⟩); have p352 : 0 ≤ (0 : Int) := (by omega); have q352 : 0 < (l1.length : Int) := of_decide_eq_true (by first | (with_reducible assumption) | assumption); obtain ⟨ad352, e352, hx352_0⟩ := Kd.at_int HR1.out 0 p352 q352; cases e352; have qi352 : (0 < l1.length) = True := eq_true (by omega); (try rw [show ((0 : Int)).toNat = 0 from rfl] at hx352_0); (try rw [Addr.add_zero'] at hx352_0); replace hx352_0 := (HB.out.cell (World.block_lt_of_cell? w _ hx352_0)).trans hx352_0; replace p352 := eq_true p352; replace q352 := eq_true q352) | (go_at_call 18; (with_reducible refine (abacistref02_Of.calls (rd l1 0) t353 _ A64.out).mono ?_); rintro e w' ⟨rfl, ⟨nd, rfl⟩⟩; (try first | exact ⟨rfl, _, World.drewN_drewN _ _ _⟩ | exact ⟨rfl, _, Eq.trans (World.drewN_drewN _ _ _) (congrArg (World.drewN _) (Nat.add_assoc _ _ _))⟩)) | (go_at_call 15; (with_reducible refine (abacistref02_Mul.calls kj48 x21_6 (IntKind.u64.wrap ((l0.length : Int))) t357 _ A73.out).mono ?_); rintro e w' ⟨rfl, ⟨nd, rfl⟩⟩; (try first | exact ⟨rfl, _, World.drewN_drewN _ _ _⟩ | exact ⟨rfl, _, Eq.trans (World.drewN_drewN _ _ _) (congrArg (World.drewN _) (Nat.add_assoc _ _ _))⟩)))
                                                                              repeat (go_quiet (first | (go_at_call 17; (with_reducible refine (abacistref07_At.calls kj48 _ _ l0 a3 t347 _ ?side1 ?side2 A55.out).mono ?_); (case side1 => repeat (first | exact (Kd.C_below HR0.out HB.out) | (with_reducible refine Kd.C_alloc ?_ _) | (with_reducible refine Kd.C_drewN ?_ _) | (with_reducible refine Kd.C_drew ?_))); (case side2 => exact HC0.out); rintro e w' ⟨rfl, ⟨nd, rfl⟩⟩; (try first | exact ⟨rfl, _, World.drewN_drewN _ _ _⟩ | exact ⟨rfl, _, Eq.trans (World.drewN_drewN _ _ _) (congrArg (World.drewN _) (Nat.add_assoc _ _ _))⟩)) | (go_at_call 11; (with_reducible refine (abacistref08_Transform.calls kj48 _ _ l1 t330 (wrap64 (1 - a2)) t348 _ ?side1 ?side2 A56.out).mono ?_); (case side1 => repeat (first | exact (Kd.C_below HR1.out (by repeat (first | (with_reducible first | exact HB.out | apply below_alloc | apply pw_below_drewN | apply below_drew1) | exact HB.out))) | (with_reducible refine Kd.C_alloc ?_ _) | (with_reducible refine Kd.C_drewN ?_ _) | (with_reducible refine Kd.C_drew ?_))); (case side2 => exact HC1.out); rintro e w74 ⟨v349, rfl, ho0, hb⟩; have n0_ := Aside0.mk (Kd.R_lower ho0 (below_size (by repeat (first | (with_reducible first | exact HB.out | apply below_alloc | apply pw_below_drewN | apply below_drew1) | exact HB.out)))); have n1_ := Aside0.mk (below_step (by repeat (first | (with_reducible first | exact HB.out | apply below_alloc | apply pw_below_drewN | apply below_drew1) | exact HB.out)) hb); clear HB; have HO350 := n0_; have HB := n1_; clear n0_ n1_; (try clear hb); (try clear hb2); (try clear hk); (try clear hi); (try clear ho0); obtain ⟨Ao75, co75, eo75⟩ := Kd.R_slice HO350.out; subst eo75) | (go_at_call 17; (with_reducible refine (abacistref07_At.calls kj48 _ _ t348 a3 t351 _ ?side1 ?side2 A57.out).mono ?_); (case side1 => repeat (first | exact (Kd.R_reads' HO350.out).2.2 | (with_reducible refine Kd.C_alloc ?_ _) | (with_reducible refine Kd.C_drewN ?_ _) | (with_reducible refine Kd.C_drew ?_))); (case side2 => exact (Kd.R_reads' HO350.out).2.1); rintro e w' ⟨rfl, ⟨nd, rfl⟩⟩; (try first | exact ⟨rfl, _, World.drewN_drewN _ _ _⟩ | exact ⟨rfl, _, Eq.trans (World.drewN_drewN _ _ _) (congrArg (World.drewN _) (Nat.add_assoc _ _ _))⟩); have p352 : 0 ≤ (0 : Int) := (by omega); have q352 : 0 < (l1.length : Int) := of_decide_eq_true (by first | (with_reducible assumption) | assumption); obtain ⟨ad352, e352, hx352_0⟩ := Kd.at_int HR1.out 0 p352 q352; cases e352; have qi352 : (0 < l1.length) = True := eq_true (by omega); (try rw [show ((0 : Int)).toNat = 0 from rfl] at hx352_0); (try rw [Addr.add_zero'] at hx352_0); replace hx352_0 := (HB.out.cell (World.block_lt_of_cell? w _ hx352_0)).trans hx352_0; replace p352 := eq_true p352; replace q352 := eq_true q352) | (go_at_call 18; (with_reducible refine (abacistref02_Of.calls (rd l1 0) t353 _ A64.out).mono ?_); rintro e w' ⟨rfl, ⟨nd, rfl⟩⟩; (try first | exact ⟨rfl, _, World.drewN_drewN _ _ _⟩ | exact ⟨rfl, _, Eq.trans (World.drewN_drewN _ _ _) (congrArg (World.drewN _) (Nat.add_assoc _ _ _))⟩)) | (go_at_call 15; (with_reducible refine (abacistref02_Mul.calls kj48 x21_6 (IntKind.u64.wrap ((l0.length : Int))) t357 _ A73.out).mono ?_); rintro e w' ⟨rfl, ⟨nd, rfl⟩⟩; (try first | exact ⟨rfl, _, World.drewN_drewN _ _ _⟩ | exact ⟨rfl, _, Eq.trans (World.drewN_drewN _ _ _) (congrArg (World.drewN _) (Nat.add_assoc _ _ _))⟩))); try go_wp2_with (first | (go_at_call 17; (with_reducible refine (abacistref07_At.calls kj48 _ _ l0 a3 t347 _ ?side1 ?side2 A55.out).mono ?_); (case side1 => repeat (first | exact (Kd.C_below HR0.out HB.out) | (with_reducible refine Kd.C_alloc ?_ _) | (with_reducible refine Kd.C_drewN ?_ _) | (with_reducible refine Kd.C_drew ?_))); (case side2 => exact HC0.out); rintro e w' ⟨rfl, ⟨nd, rfl⟩⟩; (try first | exact ⟨rfl, _, World.drewN_drewN _ _ _⟩ | exact ⟨rfl, _, Eq.trans (World.drewN_drewN _ _ _) (congrArg (World.drewN _) (Nat.add_assoc _ _ _))⟩)) | (go_at_call 11; (with_reducible refine (abacistref08_Transform.calls kj48 _ _ l1 t330 (wrap64 (1 - a2)) t348 _ ?side1 ?side2 A56.out).mono ?_); (case side1 => repeat (first | exact (Kd.C_below HR1.out (by repeat (first | (with_reducible first | exact HB.out | apply below_alloc | apply pw_below_drewN | apply below_drew1) | exact HB.out))) | (with_reducible refine Kd.C_alloc ?_ _) | (with_reducible refine Kd.C_drewN ?_ _) | (with_reducible refine Kd.C_drew ?_))); (case side2 => exact HC1.out); rintro e w74 ⟨v349, rfl, ho0, hb⟩; have n0_ := Aside0.mk (Kd.R_lower ho0 (below_size (by repeat (first | (with_reducible first | exact HB.out | apply below_alloc | apply pw_below_drewN | apply below_drew1) | exact HB.out)))); have n1_ := Aside0.mk (below_step (by repeat (first | (with_reducible first | exact HB.out | apply below_alloc | apply pw_below_drewN | apply below_drew1) | exact HB.out)) hb); clear HB; have HO350 := n0_; have HB := n1_; clear n0_ n1_; (try clear hb); (try clear hb2); (try clear hk); (try clear hi); (try clear ho0); obtain ⟨Ao75, co75, eo75⟩ := Kd.R_slice HO350.out; subst eo75) | (go_at_call 17; (with_reducible refine (abacistref07_At.calls kj48 _ _ t348 a3 t351 _ ?side1 ?side2 A57.out).mono ?_); (case side1 => repeat (first | exact (Kd.R_reads' HO350.out).2.2 | (with_reducible refine Kd.C_alloc ?_ _) | (with_reducible refine Kd.C_drewN ?_ _) | (with_reducible refine Kd.C_drew ?_))); (case side2 => exact (Kd.R_reads' HO350.out).2.1); rintro e w' ⟨rfl, ⟨nd, rfl⟩⟩; (try first | exact ⟨rfl, _, World.drewN_drewN _ _ _⟩ | exact ⟨rfl, _, Eq.trans (World.drewN_drewN _ _ _) (congrArg (World.drewN _) (Nat.add_assoc _ _ _))⟩); have p352 : 0 ≤ (0 : Int) := (by omega); have q352 : 0 < (l1.length : Int) := of_decide_eq_true (by first | (with_reducible assumption) | assumption); obtain ⟨ad352, e352, hx352_0⟩ := Kd.at_int HR1.out 0 p352 q352; cases e352; have qi352 : (0 < l1.length) = True := eq_true (by omega); (try rw [show ((0 : Int)).toNat = 0 from rfl] at hx352_0); (try rw [Addr.add_zero'] at hx352_0); replace hx352_0 := (HB.out.cell (World.block_lt_of_cell? w _ hx352_0)).trans hx352_0; replace p352 := eq_true p352; replace q352 := eq_true q352) | (go_at_call 18; (with_reducible refine (abacistref02_Of.calls (rd l1 0) t353 _ A64.out).mono ?_); rintro e w' ⟨rfl, ⟨nd, rfl⟩⟩; (try first | exact ⟨rfl, _, World.drewN_drewN _ _ _⟩ | exact ⟨rfl, _, Eq.trans (World.drewN_drewN _ _ _) (congrArg (World.drewN _) (Nat.add_assoc _ _ _))⟩)) | (go_at_call 15; (with_reducible refine (abacistref02_Mul.calls kj48 x21_6 (IntKind.u64.wrap ((l0.length : Int))) t357 _ A73.out).mono ?_); rintro e w' ⟨rfl, ⟨nd, rfl⟩⟩; (try first | exact ⟨rfl, _, World.drewN_drewN _ _ _⟩ | exact ⟨rfl, _, Eq.trans (World.drewN_drewN _ _ _) (congrArg (World.drewN _) (Nat.add_assoc _ _ _))⟩))))
                                                                              go_ret
                                                                              exact ⟨by first | rfl | (simp [errW_none, errW_some] <;> rfl) | (simp [*, errW_none, errW_some] <;> rfl), by repeat (first | (with_reducible first | exact HB.out | apply below_alloc | apply pw_below_drewN | apply below_drew1) | exact HB.out)⟩
                                                                            · rw [if_neg c72] at H
                                                                              have c72b0 : (t321 == false) = false := by simpa using c72
                                                                              (try (have c72b1 : decide (t321 = false) = false := by simpa using c72))
                                                                              (try (have c72b2 : (t321 == false) = false := by simpa using c72))
                                                                              (try (have c72b3 : ¬ (t321 = false) := by simpa using c72))
                                                                              clear c72
                                                                              obtain rfl := Option.some.inj H
                                                                              exact absurd hr_.out (by decide)
                                                                      · rw [if_neg c63] at H
                                                                        exact absurd H (by simp)
                                                                  · rw [if_neg c62] at H
                                                                    have c62b0 : (t326 == (t347 == t351)) = false := by simpa using c62
                                                                    (try (have c62b1 : decide (t326 = (t347 == t351)) = false := by simpa using c62))
                                                                    (try (have c62b2 : (t326 == (t347 == t351)) = false := by simpa using c62))
                                                                    (try (have c62b3 : ¬ (t326 = (t347 == t351)) := by simpa using c62))
                                                                    clear c62
                                                                    obtain rfl := Option.some.inj H
                                                                    exact absurd hr_.out (by decide)
                                                              · rw [if_neg c61] at H
                                                                have c61b0 : (t319 == (t347 == t351)) = false := by simpa using c61
                                                                (try (have c61b1 : decide (t319 = (t347 == t351)) = false := by simpa using c61))
                                                                (try (have c61b2 : (t319 == (t347 == t351)) = false := by simpa using c61))
                                                                (try (have c61b3 : ¬ (t319 = (t347 == t351)) := by simpa using c61))
                                                                clear c61
                                                                obtain rfl := Option.some.inj H
                                                                exact absurd hr_.out (by decide)
                                                          · rw [if_neg c60] at H
                                                            have c60b0 : (t327 == 0) = false := beq_eq_false_iff_ne.mpr c60
                                                            have c60b1 : (t327 != 0) = true := bne_iff_ne.mpr c60
                                                            obtain rfl := Option.some.inj H
                                                            exact absurd hr_.out (by decide)
                                                      · rw [if_neg c59] at H
                                                        have c59b0 : (t322 == 0) = false := beq_eq_false_iff_ne.mpr c59
                                                        have c59b1 : (t322 != 0) = true := bne_iff_ne.mpr c59
                                                        obtain rfl := Option.some.inj H
                                                        exact absurd hr_.out (by decide)
                                                  · rw [if_neg c58] at H
                                                    have c58b0 : (t320 == 0) = false := beq_eq_false_iff_ne.mpr c58
                                                    have c58b1 : (t320 != 0) = true := bne_iff_ne.mpr c58
                                                    obtain rfl := Option.some.inj H
                                                    exact absurd hr_.out (by decide)
                                  · as_aux_lemma =>
                                      rw [if_neg c35] at H
                                      have c35b0 : (x17_32 == 0) = false := beq_eq_false_iff_ne.mpr c35
                                      have c35b1 : (x17_32 != 0) = true := bne_iff_ne.mpr c35
                                      by_cases c76 : t320 = x17_32
                                      · as_aux_lemma =>
                                          rw [if_pos c76] at H
                                          have c76b0 : (t320 == x17_32) = true := beq_iff_eq.mpr c76
                                          have c76b1 : (t320 != x17_32) = false := bne_eq_false_iff_eq.mpr c76
                                          clear c76
                                          by_cases c77 : t322 = x17_32
                                          · as_aux_lemma =>
                                              rw [if_pos c77] at H
                                              have c77b0 : (t322 == x17_32) = true := beq_iff_eq.mpr c77
                                              have c77b1 : (t322 != x17_32) = false := bne_eq_false_iff_eq.mpr c77
                                              clear c77
                                              by_cases c78 : t327 = x17_32
                                              · as_aux_lemma =>
                                                  rw [if_pos c78] at H
                                                  have c78b0 : (t327 == x17_32) = true := beq_iff_eq.mpr c78
                                                  have c78b1 : (t327 != x17_32) = false := bne_eq_false_iff_eq.mpr c78
                                                  clear c78
                                                  by_cases c79 : t319 = true
                                                  · subst c79
                                                    have H1 : (some false) = some r := by rw [if_pos rfl] at H; exact H
                                                    clear H
                                                    have H := H1
                                                    clear H1
                                                    obtain rfl := Option.some.inj H
                                                    exact absurd hr_.out (by decide)
                                                  · replace c79 := Bool.eq_false_iff.mpr c79
                                                    subst c79
                                                    have H1 : (if t321 = true then (some false) else (some (!t326))) = some r := by rw [if_neg (show ¬ (false = true) by decide)] at H; exact H
                                                    clear H
                                                    have H := H1
                                                    clear H1
                                                    by_cases c80 : t321 = true
                                                    · subst c80
                                                      have H1 : (some false) = some r := by rw [if_pos rfl] at H; exact H
                                                      clear H
                                                      have H := H1
                                                      clear H1
                                                      obtain rfl := Option.some.inj H
                                                      exact absurd hr_.out (by decide)
                                                    · replace c80 := Bool.eq_false_iff.mpr c80
                                                      subst c80
                                                      have H1 : (some (!t326)) = some r := by rw [if_neg (show ¬ (false = true) by decide)] at H; exact H
                                                      clear H
                                                      have H := H1
                                                      clear H1
                                                      obtain rfl := Option.some.inj H
                                                      go_wp2
                                                      repeat (go_quiet (fail); try go_wp2)
                                                      go_ret
                                                      exact ⟨by first | rfl | (simp [errW_none, errW_some] <;> rfl) | (simp [*, errW_none, errW_some] <;> rfl), by repeat (first | (with_reducible first | exact HB.out | apply below_alloc | apply pw_below_drewN | apply below_drew1) | exact HB.out)⟩
                                              · rw [if_neg c78] at H
                                                have c78b0 : (t327 == x17_32) = false := beq_eq_false_iff_ne.mpr c78
                                                have c78b1 : (t327 != x17_32) = true := bne_iff_ne.mpr c78
                                                obtain rfl := Option.some.inj H
                                                exact absurd hr_.out (by decide)
                                          · rw [if_neg c77] at H
                                            have c77b0 : (t322 == x17_32) = false := beq_eq_false_iff_ne.mpr c77
                                            have c77b1 : (t322 != x17_32) = true := bne_iff_ne.mpr c77
                                            obtain rfl := Option.some.inj H
                                            exact absurd hr_.out (by decide)
                                      · rw [if_neg c76] at H
                                        have c76b0 : (t320 == x17_32) = false := beq_eq_false_iff_ne.mpr c76
                                        have c76b1 : (t320 != x17_32) = true := bne_iff_ne.mpr c76
                                        obtain rfl := Option.some.inj H
                                        exact absurd hr_.out (by decide)
  · replace c6 := Bool.eq_false_iff.mpr c6
    subst c6
    have H1 : (some false) = some r := by rw [if_neg (show ¬ (false = true) by decide)] at H; exact H
    clear H
    have H := H1
    clear H1
    obtain rfl := Option.some.inj H
    exact absurd hr_.out (by decide)

/-- THE ONE PURE STATEMENT of abacistlaw28_ProofTells: yours. -/
def abacistlaw28_ProofTells.Pure : Prop := ∀ (l0 : List Int) (l1 : List Int) (a2 : Int) (a3 : Int), l0.length ≤ maxLen → l0.length * 8 ≤ 140737488351232 → (∀ x ∈ l0, (Lit.int .u64 x).wf = true) → l1.length ≤ maxLen → l1.length * 8 ≤ 140737488351232 → (∀ x ∈ l1, (Lit.int .u64 x).wf = true) → (Lit.int .i64 a2).wf = true → (Lit.int .u64 a3).wf = true → ∃ k, abacistlaw28_ProofTells.f k l0 l1 a2 a3 = some true
theorem abacistlaw28_ProofTells.walk (P : abacistlaw28_ProofTells.Pure) (a0 : Option Addr) (len0 cap0 : Nat) (z0 : List Int) (a1 : Option Addr) (len1 cap1 : Nat) (z1 : List Int) (a2 : Int) (a3 : Int) (w : World) (hG : Aside0 (TzTab w)) (w0 : (a0 = none ∧ len0 = 0 ∧ cap0 = 0 ∧ z0 = []) ∨ ∃ x, a0 = some x ∧ len0 ≤ cap0 ∧ cap0 ≤ maxLen ∧ z0.length = cap0 ∧ (∀ i, i < z0.length → w.cell? (x.add i) = some (.int .u64 (z0.getD i 0))) ∧ ∀ n ∈ z0, (Lit.int .u64 n).wf = true) (y0 : len0 * 8 ≤ 140737488351232) (w1 : (a1 = none ∧ len1 = 0 ∧ cap1 = 0 ∧ z1 = []) ∨ ∃ x, a1 = some x ∧ len1 ≤ cap1 ∧ cap1 ≤ maxLen ∧ z1.length = cap1 ∧ (∀ i, i < z1.length → w.cell? (x.add i) = some (.int .u64 (z1.getD i 0))) ∧ ∀ n ∈ z1, (Lit.int .u64 n).wf = true) (y1 : len1 * 8 ≤ 140737488351232) (w2 : (Lit.int .i64 a2).wf = true) (w3 : (Lit.int .u64 a3).wf = true) :
    Calls Tryd.prog 4 #[.slice a0 len0 cap0, .slice a1 len1 cap1, .int .i64 a2, .int .u64 a3] w fun e w' => e = .returned (.bool true) ∧ Below w.heap.size w w' := by
  obtain ⟨l0, rfl, hr0, hm0, hw0, hc0⟩ := ReadsInt.ofRowC w0
  obtain ⟨l1, rfl, hr1, hm1, hw1, hc1⟩ := ReadsInt.ofRowC w1
  obtain ⟨k, h⟩ := P l0 l1 a2 a3 hm0 y0 hw0 hm1 y1 hw1 w2 w3
  refine (abacistlaw28_ProofTells.calls k _ _ l0 _ _ l1 a2 a3 true ⟨rfl⟩ w (Kd.C_of_reads (d := (0 : Int)) (h1 := fun _ => rfl) hr0) hc0 (Kd.C_of_reads (d := (0 : Int)) (h1 := fun _ => rfl) hr1) hc1 hG h).mono ?_
  rintro e w' ⟨rfl, hd⟩
  exact ⟨rfl, hd⟩

end Go.Proofs.YtdnmoefdonanbaaDoor.PProofTells
