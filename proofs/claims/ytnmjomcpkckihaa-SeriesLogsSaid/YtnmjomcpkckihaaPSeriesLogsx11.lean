-- Written for this claim by wip/gen/mk.sh, this session's own driver over the kit's print
import Derived.Test.YtnmjomcpkckihaaPSeriesLogsx0
import Derived.Test.YtnmjomcpkckihaaPSeriesLogsx7
import Derived.Test.YtnmjomcpkckihaaPSeriesLogsx8
import Derived.Test.YtnmjomcpkckihaaPSeriesLogsx9
import Derived.Test.YtnmjomcpkckihaaPSeriesLogsx10
namespace Go.Proofs.Ytnmjomcpkckihaa.PSeriesLogs
open Go.RowKit Go.Proofs.YtnmjomcpkckihaaW.PrintWords Go.Proofs.YtnmjomcpkckihaaW.PrintLast Go.Proofs.YtnmjomcpkckihaaW.PrintMore
attribute [local go_sem] max2_int min2_int max_two min_two max_three min_three max_four min_four   -- for this text's walks alone
set_option linter.unusedVariables false
set_option linter.unusedSimpArgs false

/-! ### abacistlaw30_SeriesLogs: function 6 -/
mutual
def abacistlaw30_SeriesLogs.j0 : Nat → List Int → List Int → Int → Bool → Option (Bool)
  | 0, _, _, _, _ => none
  | k + 1, x0, x1, x2, x26 => if x26 = true then (some true) else ((series_Log.f k x0 x2).bind fun bt386 => ((series_Exp.f k x1 x2).bind fun bt390 => (if x2 < 0 then (if bt386.2 = 1 then (some (bt390.2 == 1)) else (some false)) else ((abacistlaw30_first.f x0).bind fun t394 => (if ((bt386.2 == 0) != (t394 == 1)) = true then (abacistlaw30_SeriesLogs.j1 k x0 x1 x2 bt386.1 bt386.2 bt390.1 bt390.2 true) else (if bt386.2 = 0 then ((abacistlaw30_first.f x1).bind fun t395 => (if ((bt390.2 == 0) != (t395 == 0)) = true then (abacistlaw30_SeriesLogs.j1 k x0 x1 x2 bt386.1 bt386.2 bt390.1 bt390.2 true) else (if bt390.2 = 0 then (abacistlaw30_SeriesLogs.j1 k x0 x1 x2 bt386.1 bt386.2 bt390.1 bt390.2 false) else (if bt390.2 = 10 then (abacistlaw30_SeriesLogs.j1 k x0 x1 x2 bt386.1 bt386.2 bt390.1 bt390.2 ((bt390.1.length : Int) != 0)) else (abacistlaw30_SeriesLogs.j1 k x0 x1 x2 bt386.1 bt386.2 bt390.1 bt390.2 true))))) else (if bt386.2 = 10 then (if (bt386.1.length : Int) = 0 then ((abacistlaw30_first.f x1).bind fun t396 => (if ((bt390.2 == 0) != (t396 == 0)) = true then (abacistlaw30_SeriesLogs.j1 k x0 x1 x2 bt386.1 bt386.2 bt390.1 bt390.2 true) else (if bt390.2 = 0 then (abacistlaw30_SeriesLogs.j1 k x0 x1 x2 bt386.1 bt386.2 bt390.1 bt390.2 false) else (if bt390.2 = 10 then (abacistlaw30_SeriesLogs.j1 k x0 x1 x2 bt386.1 bt386.2 bt390.1 bt390.2 ((bt390.1.length : Int) != 0)) else (abacistlaw30_SeriesLogs.j1 k x0 x1 x2 bt386.1 bt386.2 bt390.1 bt390.2 true))))) else (abacistlaw30_SeriesLogs.j1 k x0 x1 x2 bt386.1 bt386.2 bt390.1 bt390.2 true)) else (abacistlaw30_SeriesLogs.j1 k x0 x1 x2 bt386.1 bt386.2 bt390.1 bt390.2 true))))))))
def abacistlaw30_SeriesLogs.j1 : Nat → List Int → List Int → Int → List Int → Int → List Int → Int → Bool → Option (Bool)
  | 0, _, _, _, _, _, _, _, _ => none
  | k + 1, x0, x1, x2, x7, x8, x9, x10, x86 => if x86 = true then (some false) else (if x8 = 0 then (if (x7.length : Int) = x2 then (if x2 > 0 then (if 0 < (x7.length : Int) then (if (rd x7 0) = 0 then ((abacistref07_Derive.f k x7).bind fun t398 => ((abacistref07_Mul.f k t398 x0).bind fun t401 => ((abacistlaw30_cut.f k t401 (mx (wrap64 (x2 - 1)) 0)).bind fun t404 => ((abacistlaw30_cut.f k x0 x2).bind fun t407 => ((abacistref07_Derive.f k t407).bind fun t410 => ((abacistlaw30_cut.f k t410 (mx (wrap64 (x2 - 1)) 0)).bind fun t413 => ((abacistref04_Same.f k t404 t413).bind fun t416 => (abacistlaw30_SeriesLogs.j2 k x0 x1 x2 x7 x9 x10 (mx (wrap64 (x2 - 1)) 0) (!t416))))))))) else (abacistlaw30_SeriesLogs.j2 k x0 x1 x2 x7 x9 x10 (mx (wrap64 (x2 - 1)) 0) true)) else (none)) else ((abacistref07_Derive.f k x7).bind fun t417 => ((abacistref07_Mul.f k t417 x0).bind fun t420 => ((abacistlaw30_cut.f k t420 (mx (wrap64 (x2 - 1)) 0)).bind fun t423 => ((abacistlaw30_cut.f k x0 x2).bind fun t426 => ((abacistref07_Derive.f k t426).bind fun t429 => ((abacistlaw30_cut.f k t429 (mx (wrap64 (x2 - 1)) 0)).bind fun t432 => ((abacistref04_Same.f k t423 t432).bind fun t435 => (abacistlaw30_SeriesLogs.j2 k x0 x1 x2 x7 x9 x10 (mx (wrap64 (x2 - 1)) 0) (!t435)))))))))) else (abacistlaw30_SeriesLogs.j2 k x0 x1 x2 x7 x9 x10 (mx (wrap64 (x2 - 1)) 0) true)) else (abacistlaw30_SeriesLogs.j3 k x1 x2 x9 x10 (mx (wrap64 (x2 - 1)) 0)))
def abacistlaw30_SeriesLogs.j3 : Nat → List Int → Int → List Int → Int → Int → Option (Bool)
  | 0, _, _, _, _, _ => none
  | k + 1, x1, x2, x9, x10, x11 => if x10 = 0 then (if (x9.length : Int) = x2 then (if x2 > 0 then (if 0 < (x9.length : Int) then (if (rd x9 0) = 1 then ((abacistref07_Derive.f k x9).bind fun t445 => ((abacistlaw30_cut.f k t445 x11).bind fun t448 => ((abacistlaw30_cut.f k x1 x2).bind fun t451 => ((abacistref07_Derive.f k t451).bind fun t454 => ((abacistref07_Mul.f k x9 t454).bind fun t457 => ((abacistlaw30_cut.f k t457 x11).bind fun t460 => ((abacistref04_Same.f k t448 t460).bind fun t463 => (abacistlaw30_SeriesLogs.j4 k x1 x2 x9 (!t463))))))))) else (abacistlaw30_SeriesLogs.j4 k x1 x2 x9 true)) else (none)) else ((abacistref07_Derive.f k x9).bind fun t464 => ((abacistlaw30_cut.f k t464 x11).bind fun t467 => ((abacistlaw30_cut.f k x1 x2).bind fun t470 => ((abacistref07_Derive.f k t470).bind fun t473 => ((abacistref07_Mul.f k x9 t473).bind fun t476 => ((abacistlaw30_cut.f k t476 x11).bind fun t479 => ((abacistref04_Same.f k t467 t479).bind fun t482 => (abacistlaw30_SeriesLogs.j4 k x1 x2 x9 (!t482)))))))))) else (abacistlaw30_SeriesLogs.j4 k x1 x2 x9 true)) else (some true)
def abacistlaw30_SeriesLogs.j4 : Nat → List Int → Int → List Int → Bool → Option (Bool)
  | 0, _, _, _, _ => none
  | k + 1, x1, x2, x9, x169 => if x169 = true then (some false) else (if x2 = 0 then (some true) else ((series_Log.f k x9 x2).bind fun bt483 => (if bt483.2 = 0 then ((abacistlaw30_cut.f k x1 x2).bind fun t487 => ((abacistref04_Same.f k bt483.1 t487).bind fun t490 => (some t490))) else (some false))))
def abacistlaw30_SeriesLogs.j2 : Nat → List Int → List Int → Int → List Int → List Int → Int → Int → Bool → Option (Bool)
  | 0, _, _, _, _, _, _, _, _ => none
  | k + 1, x0, x1, x2, x7, x9, x10, x11, x121 => if x121 = true then (some false) else ((series_Exp.f k x7 x2).bind fun bt436 => (if bt436.2 = 0 then ((abacistlaw30_cut.f k x0 x2).bind fun t440 => ((abacistref04_Same.f k bt436.1 t440).bind fun t443 => (if t443 = true then (abacistlaw30_SeriesLogs.j3 k x1 x2 x9 x10 x11) else (some false)))) else (some false)))
end
def abacistlaw30_SeriesLogs.f (k : Nat) (l0 : List Int) (l1 : List Int) (a2 : Int) : Option (Bool) := (abacistlaw30_awake.f k).bind fun t384 => (if t384 = true then ((abacistlaw30_most.f l0 l1 a2).bind fun t385 => (if t385 = true then (abacistlaw30_SeriesLogs.j0 k l0 l1 a2 (decide (a2 > 20))) else (abacistlaw30_SeriesLogs.j0 k l0 l1 a2 true))) else (some false))
theorem abacistlaw30_SeriesLogs.mono_l : ∀ k, (∀ y0 y1 y2 y3, LeO (abacistlaw30_SeriesLogs.j0 k y0 y1 y2 y3) (abacistlaw30_SeriesLogs.j0 (k + 1) y0 y1 y2 y3)) ∧ (∀ y0 y1 y2 y3 y4 y5 y6 y7, LeO (abacistlaw30_SeriesLogs.j1 k y0 y1 y2 y3 y4 y5 y6 y7) (abacistlaw30_SeriesLogs.j1 (k + 1) y0 y1 y2 y3 y4 y5 y6 y7)) ∧ (∀ y0 y1 y2 y3 y4, LeO (abacistlaw30_SeriesLogs.j3 k y0 y1 y2 y3 y4) (abacistlaw30_SeriesLogs.j3 (k + 1) y0 y1 y2 y3 y4)) ∧ (∀ y0 y1 y2 y3, LeO (abacistlaw30_SeriesLogs.j4 k y0 y1 y2 y3) (abacistlaw30_SeriesLogs.j4 (k + 1) y0 y1 y2 y3)) ∧ (∀ y0 y1 y2 y3 y4 y5 y6 y7, LeO (abacistlaw30_SeriesLogs.j2 k y0 y1 y2 y3 y4 y5 y6 y7) (abacistlaw30_SeriesLogs.j2 (k + 1) y0 y1 y2 y3 y4 y5 y6 y7))
  | 0 => ⟨fun _ _ _ _ r h => by simp [abacistlaw30_SeriesLogs.j0] at h, fun _ _ _ _ _ _ _ _ r h => by simp [abacistlaw30_SeriesLogs.j1] at h, fun _ _ _ _ _ r h => by simp [abacistlaw30_SeriesLogs.j3] at h, fun _ _ _ _ r h => by simp [abacistlaw30_SeriesLogs.j4] at h, fun _ _ _ _ _ _ _ _ r h => by simp [abacistlaw30_SeriesLogs.j2] at h⟩
  | k + 1 => by
    obtain ⟨ih0, ih1, ih2, ih3, ih4⟩ := abacistlaw30_SeriesLogs.mono_l k
    refine ⟨?_, ?_, ?_, ?_, ?_⟩
    · as_aux_lemma =>
        intro y0 y1 y2 y3
        unfold abacistlaw30_SeriesLogs.j0
        repeat' first
        | (with_reducible exact ih0 _ _ _ _)
        | (with_reducible exact ih1 _ _ _ _ _ _ _ _)
        | (with_reducible exact ih2 _ _ _ _ _)
        | (with_reducible exact ih3 _ _ _ _)
        | (with_reducible exact ih4 _ _ _ _ _ _ _ _)
        | (with_reducible exact abacistlaw30_awake.mono _)
        | (with_reducible exact abacistlaw30_cut.mono _ _ _)
        | (with_reducible exact abacistref04_Same.mono _ _ _)
        | (with_reducible exact abacistref07_Derive.mono _ _)
        | (with_reducible exact abacistref07_Mul.mono _ _ _)
        | (with_reducible exact series_Exp.mono _ _ _)
        | (with_reducible exact series_Log.mono _ _ _)
        | (with_reducible exact LeO.refl _)
        | (with_reducible exact LeO.none _)
        | (with_reducible refine LeO.ite ?_ ?_)
        | (with_reducible refine LeO.bind ?_ (fun _ => ?_))
        | exact ih0 _ _ _ _
        | exact ih1 _ _ _ _ _ _ _ _
        | exact ih2 _ _ _ _ _
        | exact ih3 _ _ _ _
        | exact ih4 _ _ _ _ _ _ _ _
        | exact abacistlaw30_awake.mono _
        | exact abacistlaw30_cut.mono _ _ _
        | exact abacistref04_Same.mono _ _ _
        | exact abacistref07_Derive.mono _ _
        | exact abacistref07_Mul.mono _ _ _
        | exact series_Exp.mono _ _ _
        | exact series_Log.mono _ _ _
        | exact LeO.none _
        | refine LeO.ite ?_ ?_
        | refine LeO.bind ?_ (fun _ => ?_)
    · as_aux_lemma =>
        intro y0 y1 y2 y3 y4 y5 y6 y7
        unfold abacistlaw30_SeriesLogs.j1
        repeat' first
        | (with_reducible exact ih0 _ _ _ _)
        | (with_reducible exact ih1 _ _ _ _ _ _ _ _)
        | (with_reducible exact ih2 _ _ _ _ _)
        | (with_reducible exact ih3 _ _ _ _)
        | (with_reducible exact ih4 _ _ _ _ _ _ _ _)
        | (with_reducible exact abacistlaw30_awake.mono _)
        | (with_reducible exact abacistlaw30_cut.mono _ _ _)
        | (with_reducible exact abacistref04_Same.mono _ _ _)
        | (with_reducible exact abacistref07_Derive.mono _ _)
        | (with_reducible exact abacistref07_Mul.mono _ _ _)
        | (with_reducible exact series_Exp.mono _ _ _)
        | (with_reducible exact series_Log.mono _ _ _)
        | (with_reducible exact LeO.refl _)
        | (with_reducible exact LeO.none _)
        | (with_reducible refine LeO.ite ?_ ?_)
        | (with_reducible refine LeO.bind ?_ (fun _ => ?_))
        | exact ih0 _ _ _ _
        | exact ih1 _ _ _ _ _ _ _ _
        | exact ih2 _ _ _ _ _
        | exact ih3 _ _ _ _
        | exact ih4 _ _ _ _ _ _ _ _
        | exact abacistlaw30_awake.mono _
        | exact abacistlaw30_cut.mono _ _ _
        | exact abacistref04_Same.mono _ _ _
        | exact abacistref07_Derive.mono _ _
        | exact abacistref07_Mul.mono _ _ _
        | exact series_Exp.mono _ _ _
        | exact series_Log.mono _ _ _
        | exact LeO.none _
        | refine LeO.ite ?_ ?_
        | refine LeO.bind ?_ (fun _ => ?_)
    · as_aux_lemma =>
        intro y0 y1 y2 y3 y4
        unfold abacistlaw30_SeriesLogs.j3
        repeat' first
        | (with_reducible exact ih0 _ _ _ _)
        | (with_reducible exact ih1 _ _ _ _ _ _ _ _)
        | (with_reducible exact ih2 _ _ _ _ _)
        | (with_reducible exact ih3 _ _ _ _)
        | (with_reducible exact ih4 _ _ _ _ _ _ _ _)
        | (with_reducible exact abacistlaw30_awake.mono _)
        | (with_reducible exact abacistlaw30_cut.mono _ _ _)
        | (with_reducible exact abacistref04_Same.mono _ _ _)
        | (with_reducible exact abacistref07_Derive.mono _ _)
        | (with_reducible exact abacistref07_Mul.mono _ _ _)
        | (with_reducible exact series_Exp.mono _ _ _)
        | (with_reducible exact series_Log.mono _ _ _)
        | (with_reducible exact LeO.refl _)
        | (with_reducible exact LeO.none _)
        | (with_reducible refine LeO.ite ?_ ?_)
        | (with_reducible refine LeO.bind ?_ (fun _ => ?_))
        | exact ih0 _ _ _ _
        | exact ih1 _ _ _ _ _ _ _ _
        | exact ih2 _ _ _ _ _
        | exact ih3 _ _ _ _
        | exact ih4 _ _ _ _ _ _ _ _
        | exact abacistlaw30_awake.mono _
        | exact abacistlaw30_cut.mono _ _ _
        | exact abacistref04_Same.mono _ _ _
        | exact abacistref07_Derive.mono _ _
        | exact abacistref07_Mul.mono _ _ _
        | exact series_Exp.mono _ _ _
        | exact series_Log.mono _ _ _
        | exact LeO.none _
        | refine LeO.ite ?_ ?_
        | refine LeO.bind ?_ (fun _ => ?_)
    · as_aux_lemma =>
        intro y0 y1 y2 y3
        unfold abacistlaw30_SeriesLogs.j4
        repeat' first
        | (with_reducible exact ih0 _ _ _ _)
        | (with_reducible exact ih1 _ _ _ _ _ _ _ _)
        | (with_reducible exact ih2 _ _ _ _ _)
        | (with_reducible exact ih3 _ _ _ _)
        | (with_reducible exact ih4 _ _ _ _ _ _ _ _)
        | (with_reducible exact abacistlaw30_awake.mono _)
        | (with_reducible exact abacistlaw30_cut.mono _ _ _)
        | (with_reducible exact abacistref04_Same.mono _ _ _)
        | (with_reducible exact abacistref07_Derive.mono _ _)
        | (with_reducible exact abacistref07_Mul.mono _ _ _)
        | (with_reducible exact series_Exp.mono _ _ _)
        | (with_reducible exact series_Log.mono _ _ _)
        | (with_reducible exact LeO.refl _)
        | (with_reducible exact LeO.none _)
        | (with_reducible refine LeO.ite ?_ ?_)
        | (with_reducible refine LeO.bind ?_ (fun _ => ?_))
        | exact ih0 _ _ _ _
        | exact ih1 _ _ _ _ _ _ _ _
        | exact ih2 _ _ _ _ _
        | exact ih3 _ _ _ _
        | exact ih4 _ _ _ _ _ _ _ _
        | exact abacistlaw30_awake.mono _
        | exact abacistlaw30_cut.mono _ _ _
        | exact abacistref04_Same.mono _ _ _
        | exact abacistref07_Derive.mono _ _
        | exact abacistref07_Mul.mono _ _ _
        | exact series_Exp.mono _ _ _
        | exact series_Log.mono _ _ _
        | exact LeO.none _
        | refine LeO.ite ?_ ?_
        | refine LeO.bind ?_ (fun _ => ?_)
    · as_aux_lemma =>
        intro y0 y1 y2 y3 y4 y5 y6 y7
        unfold abacistlaw30_SeriesLogs.j2
        repeat' first
        | (with_reducible exact ih0 _ _ _ _)
        | (with_reducible exact ih1 _ _ _ _ _ _ _ _)
        | (with_reducible exact ih2 _ _ _ _ _)
        | (with_reducible exact ih3 _ _ _ _)
        | (with_reducible exact ih4 _ _ _ _ _ _ _ _)
        | (with_reducible exact abacistlaw30_awake.mono _)
        | (with_reducible exact abacistlaw30_cut.mono _ _ _)
        | (with_reducible exact abacistref04_Same.mono _ _ _)
        | (with_reducible exact abacistref07_Derive.mono _ _)
        | (with_reducible exact abacistref07_Mul.mono _ _ _)
        | (with_reducible exact series_Exp.mono _ _ _)
        | (with_reducible exact series_Log.mono _ _ _)
        | (with_reducible exact LeO.refl _)
        | (with_reducible exact LeO.none _)
        | (with_reducible refine LeO.ite ?_ ?_)
        | (with_reducible refine LeO.bind ?_ (fun _ => ?_))
        | exact ih0 _ _ _ _
        | exact ih1 _ _ _ _ _ _ _ _
        | exact ih2 _ _ _ _ _
        | exact ih3 _ _ _ _
        | exact ih4 _ _ _ _ _ _ _ _
        | exact abacistlaw30_awake.mono _
        | exact abacistlaw30_cut.mono _ _ _
        | exact abacistref04_Same.mono _ _ _
        | exact abacistref07_Derive.mono _ _
        | exact abacistref07_Mul.mono _ _ _
        | exact series_Exp.mono _ _ _
        | exact series_Log.mono _ _ _
        | exact LeO.none _
        | refine LeO.ite ?_ ?_
        | refine LeO.bind ?_ (fun _ => ?_)
theorem abacistlaw30_SeriesLogs.mono : ∀ a0 a1 a2 k, LeO (abacistlaw30_SeriesLogs.f k a0 a1 a2) (abacistlaw30_SeriesLogs.f (k + 1) a0 a1 a2) := by
  intro a0 a1 a2 k
  obtain ⟨ih0, ih1, ih2, ih3, ih4⟩ := abacistlaw30_SeriesLogs.mono_l k
  unfold abacistlaw30_SeriesLogs.f
  repeat' first
      | (with_reducible exact ih0 _ _ _ _)
      | (with_reducible exact ih1 _ _ _ _ _ _ _ _)
      | (with_reducible exact ih2 _ _ _ _ _)
      | (with_reducible exact ih3 _ _ _ _)
      | (with_reducible exact ih4 _ _ _ _ _ _ _ _)
      | (with_reducible exact abacistlaw30_awake.mono _)
      | (with_reducible exact abacistlaw30_cut.mono _ _ _)
      | (with_reducible exact abacistref04_Same.mono _ _ _)
      | (with_reducible exact abacistref07_Derive.mono _ _)
      | (with_reducible exact abacistref07_Mul.mono _ _ _)
      | (with_reducible exact series_Exp.mono _ _ _)
      | (with_reducible exact series_Log.mono _ _ _)
      | (with_reducible exact LeO.refl _)
      | (with_reducible exact LeO.none _)
      | (with_reducible refine LeO.ite ?_ ?_)
      | (with_reducible refine LeO.bind ?_ (fun _ => ?_))
      | exact ih0 _ _ _ _
      | exact ih1 _ _ _ _ _ _ _ _
      | exact ih2 _ _ _ _ _
      | exact ih3 _ _ _ _
      | exact ih4 _ _ _ _ _ _ _ _
      | exact abacistlaw30_awake.mono _
      | exact abacistlaw30_cut.mono _ _ _
      | exact abacistref04_Same.mono _ _ _
      | exact abacistref07_Derive.mono _ _
      | exact abacistref07_Mul.mono _ _ _
      | exact series_Exp.mono _ _ _
      | exact series_Log.mono _ _ _
      | exact LeO.none _
      | refine LeO.ite ?_ ?_
      | refine LeO.bind ?_ (fun _ => ?_)
set_option maxHeartbeats 80000000 in
set_option maxRecDepth 100000 in
theorem abacistlaw30_SeriesLogs.calls (k : Nat) (A0 : Option Addr) (c0 : Nat) (l0 : List Int) (A1 : Option Addr) (c1 : Nat) (l1 : List Int) (a2 : Int) (r : Bool) (hr_ : Aside0 (r = true)) (w : World) (hr0 : Kd.C (Kd.int .u64) w A0 l0.length l0) (hc0 : l0.length ≤ c0) (hr1 : Kd.C (Kd.int .u64) w A1 l1.length l1) (hc1 : l1.length ≤ c1) (h : abacistlaw30_SeriesLogs.f k l0 l1 a2 = some r) :
    Calls Try.prog 6 #[.slice A0 l0.length c0, .slice A1 l1.length c1, .int .i64 a2] w fun e w' => e = .returned (.bool r) ∧ Below w.heap.size w w' := by
  have HR0 := Aside0.mk hr0
  have HC0 := Aside0.mk hc0
  clear hr0 hc0
  have HR1 := Aside0.mk hr1
  have HC1 := Aside0.mk hc1
  clear hr1 hc1
  have HB := Aside0.mk (Below.refl w.heap.size w)
  have H : ((abacistlaw30_awake.f k).bind fun t384 => (if t384 = true then ((abacistlaw30_most.f l0 l1 a2).bind fun t385 => (if t385 = true then (abacistlaw30_SeriesLogs.j0 k l0 l1 a2 (decide (a2 > 20))) else (abacistlaw30_SeriesLogs.j0 k l0 l1 a2 true))) else (some false))) = some r := h
  clear h
  replace H := Option.bind_eq_some_iff.mp H
  obtain ⟨t384, A40, H⟩ := H
  replace H : (if t384 = true then ((abacistlaw30_most.f l0 l1 a2).bind fun t385 => (if t385 = true then (abacistlaw30_SeriesLogs.j0 k l0 l1 a2 (decide (a2 > 20))) else (abacistlaw30_SeriesLogs.j0 k l0 l1 a2 true))) else (some false)) = some r := H
  have A4 := Aside0.mk A40
  clear A40
  by_cases c5 : t384 = true
  · as_aux_lemma =>
      subst c5
      have H1 : ((abacistlaw30_most.f l0 l1 a2).bind fun t385 => (if t385 = true then (abacistlaw30_SeriesLogs.j0 k l0 l1 a2 (decide (a2 > 20))) else (abacistlaw30_SeriesLogs.j0 k l0 l1 a2 true))) = some r := by rw [if_pos rfl] at H; exact H
      clear H
      have H := H1
      clear H1
      have HC6 := Aside0.mk H
      clear H
      go_enter Try.func6, Try.ntmps6
      go_upto_region 3 with (first | ((with_reducible refine gate_callee (f := 7) rfl ?_); refine goesL_ (some 16) rfl rfl Try.func7 (by kernel_rfl) rfl #[] rfl (by (try simp only [List.map_toArray, List.map_cons, List.map_nil]); first | done | rfl | (simp only [List.length_drop, List.length_take]; rfl)) ?_; (with_reducible refine (abacistlaw30_awake.calls k  true _ A4.out).mono ?_); rintro e w7 ⟨rfl, hb⟩; refine ⟨_, rfl, ?_⟩; have n0_ := Aside0.mk (below_step (by repeat (first | (with_reducible first | exact HB.out | apply below_alloc | apply pw_below_drewN | apply below_drew1) | exact HB.out)) hb); clear HB; have HB := n0_; clear n0_; (try clear hb); (try clear hb2); (try clear hk); (try clear hi)) | (go_at_call 7; (with_reducible refine (abacistlaw30_awake.calls k  true _ A4.out).mono ?_); rintro e w7 ⟨rfl, hb⟩; have n0_ := Aside0.mk (below_step (by repeat (first | (with_reducible first | exact HB.out | apply below_alloc | apply pw_below_drewN | apply below_drew1) | exact HB.out)) hb); clear HB; have HB := n0_; clear n0_; (try clear hb); (try clear hb2); (try clear hk); (try clear hi)))
      (try simp only [Act.put, List.setIfInBounds_toArray, List.set_cons_zero, List.set_cons_succ])
      go_cut [26] (fun v26 wc => ∃ (kq : Nat) (x26_5 : Bool), v26 = .bool x26_5 ∧ Aside0 (abacistlaw30_SeriesLogs.j0 kq l0 l1 a2 x26_5 = some r) ∧ Aside0 (kq ≤ k) ∧ Aside0 (Below w.heap.size w wc))
      case first =>
        have H := HC6.out
        clear HC6
        replace H := Option.bind_eq_some_iff.mp H
        obtain ⟨t385, A80, H⟩ := H
        replace H : (if t385 = true then (abacistlaw30_SeriesLogs.j0 k l0 l1 a2 (decide (a2 > 20))) else (abacistlaw30_SeriesLogs.j0 k l0 l1 a2 true)) = some r := H
        have A8 := Aside0.mk A80
        clear A80
        by_cases c9 : t385 = true
        · subst c9
          have H1 : (abacistlaw30_SeriesLogs.j0 k l0 l1 a2 (decide (a2 > 20))) = some r := by rw [if_pos rfl] at H; exact H
          clear H
          have H := H1
          clear H1
          have H' := Aside0.mk H
          clear H
          go_wp2_with (first | ((with_reducible refine gate_callee (f := 8) rfl ?_); refine goesL_ (some 21) rfl rfl Try.func8 (by kernel_rfl) rfl #[.slice A0 l0.length c0, .slice A1 l1.length c1, .int .i64 a2] rfl (by (try simp only [List.map_toArray, List.map_cons, List.map_nil]); first | done | rfl | (simp only [List.length_drop, List.length_take]; rfl)) ?_; (with_reducible refine (abacistlaw30_most.calls _ _ l0 _ _ l1 a2 true _ ?side1 ?side2 ?side3 ?side4 A8.out).mono ?_); (case side1 => repeat (first | exact (Kd.C_below HR0.out HB.out) | (with_reducible refine Kd.C_alloc ?_ _) | (with_reducible refine Kd.C_drewN ?_ _) | (with_reducible refine Kd.C_drew ?_))); (case side2 => exact HC0.out); (case side3 => repeat (first | exact (Kd.C_below HR1.out HB.out) | (with_reducible refine Kd.C_alloc ?_ _) | (with_reducible refine Kd.C_drewN ?_ _) | (with_reducible refine Kd.C_drew ?_))); (case side4 => exact HC1.out); rintro e w' ⟨rfl, ⟨nd, rfl⟩⟩; refine ⟨_, rfl, ?_⟩) | (go_at_call 8; (with_reducible refine (abacistlaw30_most.calls _ _ l0 _ _ l1 a2 true _ ?side1 ?side2 ?side3 ?side4 A8.out).mono ?_); (case side1 => repeat (first | exact (Kd.C_below HR0.out HB.out) | (with_reducible refine Kd.C_alloc ?_ _) | (with_reducible refine Kd.C_drewN ?_ _) | (with_reducible refine Kd.C_drew ?_))); (case side2 => exact HC0.out); (case side3 => repeat (first | exact (Kd.C_below HR1.out HB.out) | (with_reducible refine Kd.C_alloc ?_ _) | (with_reducible refine Kd.C_drewN ?_ _) | (with_reducible refine Kd.C_drew ?_))); (case side4 => exact HC1.out); rintro e w' ⟨rfl, ⟨nd, rfl⟩⟩))
          go_meet
          case rel => exact ⟨_, (decide (a2 > 20)), (by first | rfl | (simp; done) | (simp [*]; done)), H', ⟨by first | omega | exact Nat.le_refl _⟩, ⟨by repeat (first | (with_reducible first | exact HB.out | apply below_alloc | apply pw_below_drewN | apply below_drew1) | exact HB.out)⟩⟩
        · replace c9 := Bool.eq_false_iff.mpr c9
          subst c9
          have H1 : (abacistlaw30_SeriesLogs.j0 k l0 l1 a2 true) = some r := by rw [if_neg (show ¬ (false = true) by decide)] at H; exact H
          clear H
          have H := H1
          clear H1
          have H' := Aside0.mk H
          clear H
          go_wp2_with (first | ((with_reducible refine gate_callee (f := 8) rfl ?_); refine goesL_ (some 21) rfl rfl Try.func8 (by kernel_rfl) rfl #[.slice A0 l0.length c0, .slice A1 l1.length c1, .int .i64 a2] rfl (by (try simp only [List.map_toArray, List.map_cons, List.map_nil]); first | done | rfl | (simp only [List.length_drop, List.length_take]; rfl)) ?_; (with_reducible refine (abacistlaw30_most.calls _ _ l0 _ _ l1 a2 false _ ?side1 ?side2 ?side3 ?side4 A8.out).mono ?_); (case side1 => repeat (first | exact (Kd.C_below HR0.out HB.out) | (with_reducible refine Kd.C_alloc ?_ _) | (with_reducible refine Kd.C_drewN ?_ _) | (with_reducible refine Kd.C_drew ?_))); (case side2 => exact HC0.out); (case side3 => repeat (first | exact (Kd.C_below HR1.out HB.out) | (with_reducible refine Kd.C_alloc ?_ _) | (with_reducible refine Kd.C_drewN ?_ _) | (with_reducible refine Kd.C_drew ?_))); (case side4 => exact HC1.out); rintro e w' ⟨rfl, ⟨nd, rfl⟩⟩; refine ⟨_, rfl, ?_⟩) | (go_at_call 8; (with_reducible refine (abacistlaw30_most.calls _ _ l0 _ _ l1 a2 false _ ?side1 ?side2 ?side3 ?side4 A8.out).mono ?_); (case side1 => repeat (first | exact (Kd.C_below HR0.out HB.out) | (with_reducible refine Kd.C_alloc ?_ _) | (with_reducible refine Kd.C_drewN ?_ _) | (with_reducible refine Kd.C_drew ?_))); (case side2 => exact HC0.out); (case side3 => repeat (first | exact (Kd.C_below HR1.out HB.out) | (with_reducible refine Kd.C_alloc ?_ _) | (with_reducible refine Kd.C_drewN ?_ _) | (with_reducible refine Kd.C_drew ?_))); (case side4 => exact HC1.out); rintro e w' ⟨rfl, ⟨nd, rfl⟩⟩))
          go_meet
          case rel => exact ⟨_, (true), (by first | rfl | (simp; done) | (simp [*]; done)), H', ⟨by first | omega | exact Nat.le_refl _⟩, ⟨by repeat (first | (with_reducible first | exact HB.out | apply below_alloc | apply pw_below_drewN | apply below_drew1) | exact HB.out)⟩⟩
      case rest =>
        clear HC6
        try clear c1
        try clear p2
        try clear c5
        try clear c6
        try clear c7
        try clear c8
        try clear c9
        obtain ⟨kq, x26_5, rfl, HA, HJ5, HB⟩ := hcut
        cases kq with
        | zero => exact absurd HA.out (by simp [abacistlaw30_SeriesLogs.j0])
        | succ kj5 =>
          have H := HA.out
          clear HA
          simp only [abacistlaw30_SeriesLogs.j0] at H
          by_cases c10 : x26_5 = true
          · subst c10
            have H1 : (some true) = some r := by rw [if_pos rfl] at H; exact H
            clear H
            have H := H1
            clear H1
            obtain rfl := Option.some.inj H
            go_wp2
            go_ret
            exact ⟨by first | rfl | (simp [errW_none, errW_some] <;> rfl) | (simp [*, errW_none, errW_some] <;> rfl), by repeat (first | (with_reducible first | exact HB.out | apply below_alloc | apply pw_below_drewN | apply below_drew1) | exact HB.out)⟩
          · as_aux_lemma =>
              replace c10 := Bool.eq_false_iff.mpr c10
              subst c10
              have H1 : ((series_Log.f kj5 l0 a2).bind fun bt386 => ((series_Exp.f kj5 l1 a2).bind fun bt390 => (if a2 < 0 then (if bt386.2 = 1 then (some (bt390.2 == 1)) else (some false)) else ((abacistlaw30_first.f l0).bind fun t394 => (if ((bt386.2 == 0) != (t394 == 1)) = true then (abacistlaw30_SeriesLogs.j1 kj5 l0 l1 a2 bt386.1 bt386.2 bt390.1 bt390.2 true) else (if bt386.2 = 0 then ((abacistlaw30_first.f l1).bind fun t395 => (if ((bt390.2 == 0) != (t395 == 0)) = true then (abacistlaw30_SeriesLogs.j1 kj5 l0 l1 a2 bt386.1 bt386.2 bt390.1 bt390.2 true) else (if bt390.2 = 0 then (abacistlaw30_SeriesLogs.j1 kj5 l0 l1 a2 bt386.1 bt386.2 bt390.1 bt390.2 false) else (if bt390.2 = 10 then (abacistlaw30_SeriesLogs.j1 kj5 l0 l1 a2 bt386.1 bt386.2 bt390.1 bt390.2 ((bt390.1.length : Int) != 0)) else (abacistlaw30_SeriesLogs.j1 kj5 l0 l1 a2 bt386.1 bt386.2 bt390.1 bt390.2 true))))) else (if bt386.2 = 10 then (if (bt386.1.length : Int) = 0 then ((abacistlaw30_first.f l1).bind fun t396 => (if ((bt390.2 == 0) != (t396 == 0)) = true then (abacistlaw30_SeriesLogs.j1 kj5 l0 l1 a2 bt386.1 bt386.2 bt390.1 bt390.2 true) else (if bt390.2 = 0 then (abacistlaw30_SeriesLogs.j1 kj5 l0 l1 a2 bt386.1 bt386.2 bt390.1 bt390.2 false) else (if bt390.2 = 10 then (abacistlaw30_SeriesLogs.j1 kj5 l0 l1 a2 bt386.1 bt386.2 bt390.1 bt390.2 ((bt390.1.length : Int) != 0)) else (abacistlaw30_SeriesLogs.j1 kj5 l0 l1 a2 bt386.1 bt386.2 bt390.1 bt390.2 true))))) else (abacistlaw30_SeriesLogs.j1 kj5 l0 l1 a2 bt386.1 bt386.2 bt390.1 bt390.2 true)) else (abacistlaw30_SeriesLogs.j1 kj5 l0 l1 a2 bt386.1 bt386.2 bt390.1 bt390.2 true)))))))) = some r := by rw [if_neg (show ¬ (false = true) by decide)] at H; exact H
              clear H
              have H := H1
              clear H1
              replace H := Option.bind_eq_some_iff.mp H
              obtain ⟨⟨t386, t389⟩, A110, H⟩ := H
              replace H : ((series_Exp.f kj5 l1 a2).bind fun bt390 => (if a2 < 0 then (if t389 = 1 then (some (bt390.2 == 1)) else (some false)) else ((abacistlaw30_first.f l0).bind fun t394 => (if ((t389 == 0) != (t394 == 1)) = true then (abacistlaw30_SeriesLogs.j1 kj5 l0 l1 a2 t386 t389 bt390.1 bt390.2 true) else (if t389 = 0 then ((abacistlaw30_first.f l1).bind fun t395 => (if ((bt390.2 == 0) != (t395 == 0)) = true then (abacistlaw30_SeriesLogs.j1 kj5 l0 l1 a2 t386 t389 bt390.1 bt390.2 true) else (if bt390.2 = 0 then (abacistlaw30_SeriesLogs.j1 kj5 l0 l1 a2 t386 t389 bt390.1 bt390.2 false) else (if bt390.2 = 10 then (abacistlaw30_SeriesLogs.j1 kj5 l0 l1 a2 t386 t389 bt390.1 bt390.2 ((bt390.1.length : Int) != 0)) else (abacistlaw30_SeriesLogs.j1 kj5 l0 l1 a2 t386 t389 bt390.1 bt390.2 true))))) else (if t389 = 10 then (if (t386.length : Int) = 0 then ((abacistlaw30_first.f l1).bind fun t396 => (if ((bt390.2 == 0) != (t396 == 0)) = true then (abacistlaw30_SeriesLogs.j1 kj5 l0 l1 a2 t386 t389 bt390.1 bt390.2 true) else (if bt390.2 = 0 then (abacistlaw30_SeriesLogs.j1 kj5 l0 l1 a2 t386 t389 bt390.1 bt390.2 false) else (if bt390.2 = 10 then (abacistlaw30_SeriesLogs.j1 kj5 l0 l1 a2 t386 t389 bt390.1 bt390.2 ((bt390.1.length : Int) != 0)) else (abacistlaw30_SeriesLogs.j1 kj5 l0 l1 a2 t386 t389 bt390.1 bt390.2 true))))) else (abacistlaw30_SeriesLogs.j1 kj5 l0 l1 a2 t386 t389 bt390.1 bt390.2 true)) else (abacistlaw30_SeriesLogs.j1 kj5 l0 l1 a2 t386 t389 bt390.1 bt390.2 true))))))) = some r := H
              have A11 := Aside0.mk A110
              clear A110
              replace H := Option.bind_eq_some_iff.mp H
              obtain ⟨⟨t390, t391⟩, A120, H⟩ := H
              replace H : (if a2 < 0 then (if t389 = 1 then (some (t391 == 1)) else (some false)) else ((abacistlaw30_first.f l0).bind fun t394 => (if ((t389 == 0) != (t394 == 1)) = true then (abacistlaw30_SeriesLogs.j1 kj5 l0 l1 a2 t386 t389 t390 t391 true) else (if t389 = 0 then ((abacistlaw30_first.f l1).bind fun t395 => (if ((t391 == 0) != (t395 == 0)) = true then (abacistlaw30_SeriesLogs.j1 kj5 l0 l1 a2 t386 t389 t390 t391 true) else (if t391 = 0 then (abacistlaw30_SeriesLogs.j1 kj5 l0 l1 a2 t386 t389 t390 t391 false) else (if t391 = 10 then (abacistlaw30_SeriesLogs.j1 kj5 l0 l1 a2 t386 t389 t390 t391 ((t390.length : Int) != 0)) else (abacistlaw30_SeriesLogs.j1 kj5 l0 l1 a2 t386 t389 t390 t391 true))))) else (if t389 = 10 then (if (t386.length : Int) = 0 then ((abacistlaw30_first.f l1).bind fun t396 => (if ((t391 == 0) != (t396 == 0)) = true then (abacistlaw30_SeriesLogs.j1 kj5 l0 l1 a2 t386 t389 t390 t391 true) else (if t391 = 0 then (abacistlaw30_SeriesLogs.j1 kj5 l0 l1 a2 t386 t389 t390 t391 false) else (if t391 = 10 then (abacistlaw30_SeriesLogs.j1 kj5 l0 l1 a2 t386 t389 t390 t391 ((t390.length : Int) != 0)) else (abacistlaw30_SeriesLogs.j1 kj5 l0 l1 a2 t386 t389 t390 t391 true))))) else (abacistlaw30_SeriesLogs.j1 kj5 l0 l1 a2 t386 t389 t390 t391 true)) else (abacistlaw30_SeriesLogs.j1 kj5 l0 l1 a2 t386 t389 t390 t391 true)))))) = some r := H
              have A12 := Aside0.mk A120
              clear A120
              by_cases c13 : a2 < 0
              · rw [if_pos c13] at H
                have c13b0 : decide (a2 < 0) = true := decide_eq_true c13
                clear c13
                by_cases c14 : t389 = 1
                · rw [if_pos c14] at H
                  have c14b0 : (t389 == 1) = true := beq_iff_eq.mpr c14
                  have c14b1 : (t389 != 1) = false := bne_eq_false_iff_eq.mpr c14
                  clear c14
                  obtain rfl := Option.some.inj H
                  go_wp2_with (first | ((with_reducible refine gate_callee (f := 21) rfl ?_); refine goesL_ (some 30) rfl rfl Try.func21 (by kernel_rfl) rfl #[.slice A0 l0.length c0, .int .i64 a2] rfl (by (try simp only [List.map_toArray, List.map_cons, List.map_nil]); first | done | rfl | (simp only [List.length_drop, List.length_take]; rfl)) ?_; (with_reducible refine (series_Log.calls kj5 (fun k_ => k_ < w.heap.size) _ _ l0 a2 t386 t389 _ ?side1 A11.out).mono ?_); (case side1 => exact Kd.V_mk HC0.out (Kd.F_below (Kd.C_F (Kd.heap_int .u64) HR0.out) (by repeat (first | (with_reducible first | exact HB.out | apply below_alloc | apply pw_below_drewN | apply below_drew1) | exact HB.out)))); rintro e w15 ⟨v387, rfl, ho0, hb⟩; refine ⟨_, rfl, ?_⟩; have n0_ := Aside0.mk (Kd.R_lower (Kd.R_mono (ok' := fun k_ => True) ho0 (fun _ hk_ => trivial)) (below_size (by repeat (first | (with_reducible first | exact HB.out | apply below_alloc | apply pw_below_drewN | apply below_drew1) | exact HB.out)))); have n1_ := Aside0.mk (below_step (by repeat (first | (with_reducible first | exact HB.out | apply below_alloc | apply pw_below_drewN | apply below_drew1) | exact HB.out)) hb); clear HB; have HO388 := n0_; have HB := n1_; clear n0_ n1_; (try clear hb); (try clear hb2); (try clear hk); (try clear hi); (try clear ho0)) | (go_at_call 21; (with_reducible refine (series_Log.calls kj5 (fun k_ => k_ < w.heap.size) _ _ l0 a2 t386 t389 _ ?side1 A11.out).mono ?_); (case side1 => exact Kd.V_mk HC0.out (Kd.F_below (Kd.C_F (Kd.heap_int .u64) HR0.out) (by repeat (first | (with_reducible first | exact HB.out | apply below_alloc | apply pw_below_drewN | apply below_drew1) | exact HB.out)))); rintro e w15 ⟨v387, rfl, ho0, hb⟩; have n0_ := Aside0.mk (Kd.R_lower (Kd.R_mono (ok' := fun k_ => True) ho0 (fun _ hk_ => trivial)) (below_size (by repeat (first | (with_reducible first | exact HB.out | apply below_alloc | apply pw_below_drewN | apply below_drew1) | exact HB.out)))); have n1_ := Aside0.mk (below_step (by repeat (first | (with_reducible first | exact HB.out | apply below_alloc | apply pw_below_drewN | apply below_drew1) | exact HB.out)) hb); clear HB; have HO388 := n0_; have HB := n1_; clear n0_ n1_; (try clear hb); (try clear hb2); (try clear hk); (try clear hi); (try clear ho0)) | ((with_reducible refine gate_callee (f := 22) rfl ?_); refine goesL_ (some 36) rfl rfl Try.func22 (by kernel_rfl) rfl #[.slice A1 l1.length c1, .int .i64 a2] rfl (by (try simp only [List.map_toArray, List.map_cons, List.map_nil]); first | done | rfl | (simp only [List.length_drop, List.length_take]; rfl)) ?_; (with_reducible refine (series_Exp.calls kj5 _ _ l1 a2 t390 t391 _ ?side1 ?side2 A12.out).mono ?_); (case side1 => repeat (first | exact (Kd.C_below HR1.out HB.out) | (with_reducible refine Kd.C_alloc ?_ _) | (with_reducible refine Kd.C_drewN ?_ _) | (with_reducible refine Kd.C_drew ?_))); (case side2 => exact HC1.out); rintro e w16 ⟨v392, rfl, ho0, hb⟩; refine ⟨_, rfl, ?_⟩; have n0_ := Aside0.mk (Kd.R_elder' (by (with_reducible repeat (first | apply Kd.R_alloc | apply Kd.R_drewN | apply Kd.R_drew)); exact HO388.out) (Kd.R_base ho0) hb); have n1_ := Aside0.mk (Kd.R_lower (Kd.R_new' ho0 (Kd.R_lt (by (with_reducible repeat (first | apply Kd.R_alloc | apply Kd.R_drewN | apply Kd.R_drew)); exact HO388.out))) (below_size (by repeat (first | (with_reducible first | exact HB.out | apply below_alloc | apply pw_below_drewN | apply below_drew1) | exact HB.out)))); have n2_ := Aside0.mk (below_step (by repeat (first | (with_reducible first | exact HB.out | apply below_alloc | apply pw_below_drewN | apply below_drew1) | exact HB.out)) hb); clear HO388; clear HB; have HO388 := n0_; have HO393 := n1_; have HB := n2_; clear n0_ n1_ n2_; (try clear hb); (try clear hb2); (try clear hk); (try clear hi); (try clear ho0)) | (go_at_call 22; (with_reducible refine (series_Exp.calls kj5 _ _ l1 a2 t390 t391 _ ?side1 ?side2 A12.out).mono ?_); (case side1 => repeat (first | exact (Kd.C_below HR1.out HB.out) | (with_reducible refine Kd.C_alloc ?_ _) | (with_reducible refine Kd.C_drewN ?_ _) | (with_reducible refine Kd.C_drew ?_))); (case side2 => exact HC1.out); rintro e w16 ⟨v392, rfl, ho0, hb⟩; have n0_ := Aside0.mk (Kd.R_elder' (by (with_reducible repeat (first | apply Kd.R_alloc | apply Kd.R_drewN | apply Kd.R_drew)); exact HO388.out) (Kd.R_base ho0) hb); have n1_ := Aside0.mk (Kd.R_lower (Kd.R_new' ho0 (Kd.R_lt (by (with_reducible repeat (first | apply Kd.R_alloc | apply Kd.R_drewN | apply Kd.R_drew)); exact HO388.out))) (below_size (by repeat (first | (with_reducible first | exact HB.out | apply below_alloc | apply pw_below_drewN | apply below_drew1) | exact HB.out)))); have n2_ := Aside0.mk (below_step (by repeat (first | (with_reducible first | exact HB.out | apply below_alloc | apply pw_below_drewN | apply below_drew1) | exact HB.out)) hb); clear HO388; clear HB; have HO388 := n0_; have HO393 := n1_; have HB := n2_; clear n0_ n1_ n2_; (try clear hb); (try clear hb2); (try clear hk); (try clear hi); (try clear ho0)))
                  go_ret
                  exact ⟨by first | rfl | (simp [errW_none, errW_some] <;> rfl) | (simp [*, errW_none, errW_some] <;> rfl), by repeat (first | (with_reducible first | exact HB.out | apply below_alloc | apply pw_below_drewN | apply below_drew1) | exact HB.out)⟩
                · rw [if_neg c14] at H
                  have c14b0 : (t389 == 1) = false := beq_eq_false_iff_ne.mpr c14
                  have c14b1 : (t389 != 1) = true := bne_iff_ne.mpr c14
                  obtain rfl := Option.some.inj H
                  exact absurd hr_.out (by decide)
              · as_aux_lemma =>
                  rw [if_neg c13] at H
                  have c13b0 : decide (a2 < 0) = false := decide_eq_false c13
                  clear c13
                  have HC17 := Aside0.mk H
                  clear H
                  go_upto_region 9 with (first | ((with_reducible refine gate_callee (f := 21) rfl ?_); refine goesL_ (some 30) rfl rfl Try.func21 (by kernel_rfl) rfl #[.slice A0 l0.length c0, .int .i64 a2] rfl (by (try simp only [List.map_toArray, List.map_cons, List.map_nil]); first | done | rfl | (simp only [List.length_drop, List.length_take]; rfl)) ?_; (with_reducible refine (series_Log.calls kj5 (fun k_ => k_ < w.heap.size) _ _ l0 a2 t386 t389 _ ?side1 A11.out).mono ?_); (case side1 => exact Kd.V_mk HC0.out (Kd.F_below (Kd.C_F (Kd.heap_int .u64) HR0.out) (by repeat (first | (with_reducible first | exact HB.out | apply below_alloc | apply pw_below_drewN | apply below_drew1) | exact HB.out)))); rintro e w18 ⟨v387, rfl, ho0, hb⟩; refine ⟨_, rfl, ?_⟩; have n0_ := Aside0.mk (Kd.R_lower (Kd.R_mono (ok' := fun k_ => True) ho0 (fun _ hk_ => trivial)) (below_size (by repeat (first | (with_reducible first | exact HB.out | apply below_alloc | apply pw_below_drewN | apply below_drew1) | exact HB.out)))); have n1_ := Aside0.mk (below_step (by repeat (first | (with_reducible first | exact HB.out | apply below_alloc | apply pw_below_drewN | apply below_drew1) | exact HB.out)) hb); clear HB; have HO388 := n0_; have HB := n1_; clear n0_ n1_; (try clear hb); (try clear hb2); (try clear hk); (try clear hi); (try clear ho0)) | (go_at_call 21; (with_reducible refine (series_Log.calls kj5 (fun k_ => k_ < w.heap.size) _ _ l0 a2 t386 t389 _ ?side1 A11.out).mono ?_); (case side1 => exact Kd.V_mk HC0.out (Kd.F_below (Kd.C_F (Kd.heap_int .u64) HR0.out) (by repeat (first | (with_reducible first | exact HB.out | apply below_alloc | apply pw_below_drewN | apply below_drew1) | exact HB.out)))); rintro e w18 ⟨v387, rfl, ho0, hb⟩; have n0_ := Aside0.mk (Kd.R_lower (Kd.R_mono (ok' := fun k_ => True) ho0 (fun _ hk_ => trivial)) (below_size (by repeat (first | (with_reducible first | exact HB.out | apply below_alloc | apply pw_below_drewN | apply below_drew1) | exact HB.out)))); have n1_ := Aside0.mk (below_step (by repeat (first | (with_reducible first | exact HB.out | apply below_alloc | apply pw_below_drewN | apply below_drew1) | exact HB.out)) hb); clear HB; have HO388 := n0_; have HB := n1_; clear n0_ n1_; (try clear hb); (try clear hb2); (try clear hk); (try clear hi); (try clear ho0)) | ((with_reducible refine gate_callee (f := 22) rfl ?_); refine goesL_ (some 36) rfl rfl Try.func22 (by kernel_rfl) rfl #[.slice A1 l1.length c1, .int .i64 a2] rfl (by (try simp only [List.map_toArray, List.map_cons, List.map_nil]); first | done | rfl | (simp only [List.length_drop, List.length_take]; rfl)) ?_; (with_reducible refine (series_Exp.calls kj5 _ _ l1 a2 t390 t391 _ ?side1 ?side2 A12.out).mono ?_); (case side1 => repeat (first | exact (Kd.C_below HR1.out HB.out) | (with_reducible refine Kd.C_alloc ?_ _) | (with_reducible refine Kd.C_drewN ?_ _) | (with_reducible refine Kd.C_drew ?_))); (case side2 => exact HC1.out); rintro e w19 ⟨v392, rfl, ho0, hb⟩; refine ⟨_, rfl, ?_⟩; have n0_ := Aside0.mk (Kd.R_elder' (by (with_reducible repeat (first | apply Kd.R_alloc | apply Kd.R_drewN | apply Kd.R_drew)); exact HO388.out) (Kd.R_base ho0) hb); have n1_ := Aside0.mk (Kd.R_lower (Kd.R_new' ho0 (Kd.R_lt (by (with_reducible repeat (first | apply Kd.R_alloc | apply Kd.R_drewN | apply Kd.R_drew)); exact HO388.out))) (below_size (by repeat (first | (with_reducible first | exact HB.out | apply below_alloc | apply pw_below_drewN | apply below_drew1) | exact HB.out)))); have n2_ := Aside0.mk (below_step (by repeat (first | (with_reducible first | exact HB.out | apply below_alloc | apply pw_below_drewN | apply below_drew1) | exact HB.out)) hb); clear HO388; clear HB; have HO388 := n0_; have HO393 := n1_; have HB := n2_; clear n0_ n1_ n2_; (try clear hb); (try clear hb2); (try clear hk); (try clear hi); (try clear ho0)) | (go_at_call 22; (with_reducible refine (series_Exp.calls kj5 _ _ l1 a2 t390 t391 _ ?side1 ?side2 A12.out).mono ?_); (case side1 => repeat (first | exact (Kd.C_below HR1.out HB.out) | (with_reducible refine Kd.C_alloc ?_ _) | (with_reducible refine Kd.C_drewN ?_ _) | (with_reducible refine Kd.C_drew ?_))); (case side2 => exact HC1.out); rintro e w19 ⟨v392, rfl, ho0, hb⟩; have n0_ := Aside0.mk (Kd.R_elder' (by (with_reducible repeat (first | apply Kd.R_alloc | apply Kd.R_drewN | apply Kd.R_drew)); exact HO388.out) (Kd.R_base ho0) hb); have n1_ := Aside0.mk (Kd.R_lower (Kd.R_new' ho0 (Kd.R_lt (by (with_reducible repeat (first | apply Kd.R_alloc | apply Kd.R_drewN | apply Kd.R_drew)); exact HO388.out))) (below_size (by repeat (first | (with_reducible first | exact HB.out | apply below_alloc | apply pw_below_drewN | apply below_drew1) | exact HB.out)))); have n2_ := Aside0.mk (below_step (by repeat (first | (with_reducible first | exact HB.out | apply below_alloc | apply pw_below_drewN | apply below_drew1) | exact HB.out)) hb); clear HO388; clear HB; have HO388 := n0_; have HO393 := n1_; have HB := n2_; clear n0_ n1_ n2_; (try clear hb); (try clear hb2); (try clear hk); (try clear hi); (try clear ho0)))
                  (try simp only [Act.put, List.setIfInBounds_toArray, List.set_cons_zero, List.set_cons_succ])
                  go_cut [86] (fun v86 wc => ∃ (kq : Nat) (x86_16 : Bool), v86 = .bool x86_16 ∧ Aside0 (abacistlaw30_SeriesLogs.j1 kq l0 l1 a2 t386 t389 t390 t391 x86_16 = some r) ∧ Aside0 (kq ≤ kj5) ∧ Aside0 (Kd.R (Kd.int .u64) 29 wc w.heap.size (fun k_ => some k_ ≠ (v392 : Value).ownBlock) v387 t386) ∧ Aside0 (Kd.R (Kd.int .u64) 29 wc w.heap.size (fun k_ => some k_ ≠ (v387 : Value).ownBlock) v392 t390) ∧ Aside0 (Below w.heap.size w wc))
                  case first =>
                    have H := HC17.out
                    clear HC17
                    replace H := Option.bind_eq_some_iff.mp H
                    obtain ⟨t394, A200, H⟩ := H
                    replace H : (if ((t389 == 0) != (t394 == 1)) = true then (abacistlaw30_SeriesLogs.j1 kj5 l0 l1 a2 t386 t389 t390 t391 true) else (if t389 = 0 then ((abacistlaw30_first.f l1).bind fun t395 => (if ((t391 == 0) != (t395 == 0)) = true then (abacistlaw30_SeriesLogs.j1 kj5 l0 l1 a2 t386 t389 t390 t391 true) else (if t391 = 0 then (abacistlaw30_SeriesLogs.j1 kj5 l0 l1 a2 t386 t389 t390 t391 false) else (if t391 = 10 then (abacistlaw30_SeriesLogs.j1 kj5 l0 l1 a2 t386 t389 t390 t391 ((t390.length : Int) != 0)) else (abacistlaw30_SeriesLogs.j1 kj5 l0 l1 a2 t386 t389 t390 t391 true))))) else (if t389 = 10 then (if (t386.length : Int) = 0 then ((abacistlaw30_first.f l1).bind fun t396 => (if ((t391 == 0) != (t396 == 0)) = true then (abacistlaw30_SeriesLogs.j1 kj5 l0 l1 a2 t386 t389 t390 t391 true) else (if t391 = 0 then (abacistlaw30_SeriesLogs.j1 kj5 l0 l1 a2 t386 t389 t390 t391 false) else (if t391 = 10 then (abacistlaw30_SeriesLogs.j1 kj5 l0 l1 a2 t386 t389 t390 t391 ((t390.length : Int) != 0)) else (abacistlaw30_SeriesLogs.j1 kj5 l0 l1 a2 t386 t389 t390 t391 true))))) else (abacistlaw30_SeriesLogs.j1 kj5 l0 l1 a2 t386 t389 t390 t391 true)) else (abacistlaw30_SeriesLogs.j1 kj5 l0 l1 a2 t386 t389 t390 t391 true)))) = some r := H
                    have A20 := Aside0.mk A200
                    clear A200
                    by_cases c21 : ((t389 == 0) != (t394 == 1)) = true
                    · rw [if_pos c21] at H
                      have c21b0 : ((t389 == 0) != (t394 == 1)) = true := c21
                      (try (have c21b1 : decide ((t389 == 0) = (t394 == 1)) = false := by simpa using c21))
                      (try (have c21b2 : ((t389 == 0) == (t394 == 1)) = false := by simpa using c21))
                      (try (have c21b3 : ¬ ((t389 == 0) = (t394 == 1)) := by simpa using c21))
                      clear c21
                      (first | rw [c21b0] | (simp only [i64_w, i32_w]; rw [c21b0]) | skip)
                      have H' := Aside0.mk H
                      clear H
                      go_wp2_with (first | ((with_reducible refine gate_callee (f := 11) rfl ?_); refine goesL_ (some 50) rfl rfl Try.func11 (by kernel_rfl) rfl #[.slice A0 l0.length c0] rfl (by (try simp only [List.map_toArray, List.map_cons, List.map_nil]); first | done | rfl | (simp only [List.length_drop, List.length_take]; rfl)) ?_; (with_reducible refine (abacistlaw30_first.calls _ _ l0 t394 _ ?side1 ?side2 A20.out).mono ?_); (case side1 => repeat (first | exact (Kd.C_below HR0.out HB.out) | (with_reducible refine Kd.C_alloc ?_ _) | (with_reducible refine Kd.C_drewN ?_ _) | (with_reducible refine Kd.C_drew ?_))); (case side2 => exact HC0.out); rintro e w' ⟨rfl, ⟨nd, rfl⟩⟩; refine ⟨_, rfl, ?_⟩) | (go_at_call 11; (with_reducible refine (abacistlaw30_first.calls _ _ l0 t394 _ ?side1 ?side2 A20.out).mono ?_); (case side1 => repeat (first | exact (Kd.C_below HR0.out HB.out) | (with_reducible refine Kd.C_alloc ?_ _) | (with_reducible refine Kd.C_drewN ?_ _) | (with_reducible refine Kd.C_drew ?_))); (case side2 => exact HC0.out); rintro e w' ⟨rfl, ⟨nd, rfl⟩⟩))
                      go_meet
                      case rel => exact ⟨_, (true), (by first | rfl | (simp; done) | (simp [*]; done)), H', ⟨by have := HJ5.out; first | omega | exact Nat.le_refl _⟩, ⟨by (with_reducible repeat (first | apply Kd.R_alloc | apply Kd.R_drewN | apply Kd.R_drew)); exact Kd.R_mono HO388.out (fun _ hk => hk.2)⟩, ⟨by (with_reducible repeat (first | apply Kd.R_alloc | apply Kd.R_drewN | apply Kd.R_drew)); exact Kd.R_mono HO393.out (fun _ hk => hk.2)⟩, ⟨by repeat (first | (with_reducible first | exact HB.out | apply below_alloc | apply pw_below_drewN | apply below_drew1) | exact HB.out)⟩⟩
                    · as_aux_lemma =>
                        rw [if_neg c21] at H
                        have c21b0 : ((t389 == 0) != (t394 == 1)) = false := by simpa using c21
                        (try (have c21b1 : decide ((t389 == 0) = (t394 == 1)) = true := by simpa using c21))
                        (try (have c21b2 : ((t389 == 0) == (t394 == 1)) = true := by simpa using c21))
                        clear c21
                        (first | rw [c21b0] | (simp only [i64_w, i32_w]; rw [c21b0]) | skip)
                        by_cases c22 : t389 = 0
                        · as_aux_lemma =>
                            rw [if_pos c22] at H
                            have c22b0 : (t389 == 0) = true := beq_iff_eq.mpr c22
                            (try (have c22d0 : (t394 == 1) = true := by rw [c22b0] at c21b0; revert c21b0; generalize (t394 == 1) = z_; cases z_ <;> decide))
                            (try (have c22d1 : (t394 = 1) = True := by first | exact eq_true (beq_iff_eq.1 c22d0) | exact eq_false (beq_eq_false_iff_ne.1 c22d0)))
                            have c22b1 : (t389 != 0) = false := bne_eq_false_iff_eq.mpr c22
                            clear c22
                            replace H := Option.bind_eq_some_iff.mp H
                            obtain ⟨t395, A230, H⟩ := H
                            replace H : (if ((t391 == 0) != (t395 == 0)) = true then (abacistlaw30_SeriesLogs.j1 kj5 l0 l1 a2 t386 t389 t390 t391 true) else (if t391 = 0 then (abacistlaw30_SeriesLogs.j1 kj5 l0 l1 a2 t386 t389 t390 t391 false) else (if t391 = 10 then (abacistlaw30_SeriesLogs.j1 kj5 l0 l1 a2 t386 t389 t390 t391 ((t390.length : Int) != 0)) else (abacistlaw30_SeriesLogs.j1 kj5 l0 l1 a2 t386 t389 t390 t391 true)))) = some r := H
                            have A23 := Aside0.mk A230
                            clear A230
                            by_cases c24 : ((t391 == 0) != (t395 == 0)) = true
                            · rw [if_pos c24] at H
                              have c24b0 : ((t391 == 0) != (t395 == 0)) = true := c24
                              (try (have c24b1 : decide ((t391 == 0) = (t395 == 0)) = false := by simpa using c24))
                              (try (have c24b2 : ((t391 == 0) == (t395 == 0)) = false := by simpa using c24))
                              (try (have c24b3 : ¬ ((t391 == 0) = (t395 == 0)) := by simpa using c24))
                              clear c24
                              have H' := Aside0.mk H
                              clear H
                              go_wp2_with (first | ((with_reducible refine gate_callee (f := 11) rfl ?_); refine goesL_ (some 50) rfl rfl Try.func11 (by kernel_rfl) rfl #[.slice A0 l0.length c0] rfl (by (try simp only [List.map_toArray, List.map_cons, List.map_nil]); first | done | rfl | (simp only [List.length_drop, List.length_take]; rfl)) ?_; (with_reducible refine (abacistlaw30_first.calls _ _ l0 t394 _ ?side1 ?side2 A20.out).mono ?_); (case side1 => repeat (first | exact (Kd.C_below HR0.out HB.out) | (with_reducible refine Kd.C_alloc ?_ _) | (with_reducible refine Kd.C_drewN ?_ _) | (with_reducible refine Kd.C_drew ?_))); (case side2 => exact HC0.out); rintro e w' ⟨rfl, ⟨nd, rfl⟩⟩; refine ⟨_, rfl, ?_⟩) | (go_at_call 11; (with_reducible refine (abacistlaw30_first.calls _ _ l0 t394 _ ?side1 ?side2 A20.out).mono ?_); (case side1 => repeat (first | exact (Kd.C_below HR0.out HB.out) | (with_reducible refine Kd.C_alloc ?_ _) | (with_reducible refine Kd.C_drewN ?_ _) | (with_reducible refine Kd.C_drew ?_))); (case side2 => exact HC0.out); rintro e w' ⟨rfl, ⟨nd, rfl⟩⟩) | (go_at_call 11; (with_reducible refine (abacistlaw30_first.calls _ _ l1 t395 _ ?side1 ?side2 A23.out).mono ?_); (case side1 => repeat (first | exact (Kd.C_below HR1.out (by repeat (first | (with_reducible first | exact HB.out | apply below_alloc | apply pw_below_drewN | apply below_drew1) | exact HB.out))) | (with_reducible refine Kd.C_alloc ?_ _) | (with_reducible refine Kd.C_drewN ?_ _) | (with_reducible refine Kd.C_drew ?_))); (case side2 => exact HC1.out); rintro e w' ⟨rfl, ⟨nd, rfl⟩⟩))
                              go_meet
                              case rel => exact ⟨_, (true), (by first | rfl | (simp; done) | (simp [*]; done)), H', ⟨by have := HJ5.out; first | omega | exact Nat.le_refl _⟩, ⟨by (with_reducible repeat (first | apply Kd.R_alloc | apply Kd.R_drewN | apply Kd.R_drew)); exact Kd.R_mono HO388.out (fun _ hk => hk.2)⟩, ⟨by (with_reducible repeat (first | apply Kd.R_alloc | apply Kd.R_drewN | apply Kd.R_drew)); exact Kd.R_mono HO393.out (fun _ hk => hk.2)⟩, ⟨by repeat (first | (with_reducible first | exact HB.out | apply below_alloc | apply pw_below_drewN | apply below_drew1) | exact HB.out)⟩⟩
                            · as_aux_lemma =>
                                rw [if_neg c24] at H
                                have c24b0 : ((t391 == 0) != (t395 == 0)) = false := by simpa using c24
                                (try (have c24b1 : decide ((t391 == 0) = (t395 == 0)) = true := by simpa using c24))
                                (try (have c24b2 : ((t391 == 0) == (t395 == 0)) = true := by simpa using c24))
                                clear c24
                                by_cases c25 : t391 = 0
                                · rw [if_pos c25] at H
                                  have c25b0 : (t391 == 0) = true := beq_iff_eq.mpr c25
                                  (try (have c25d0 : (t395 == 0) = true := by rw [c25b0] at c24b0; revert c24b0; generalize (t395 == 0) = z_; cases z_ <;> decide))
                                  (try (have c25d1 : (t395 = 0) = True := by first | exact eq_true (beq_iff_eq.1 c25d0) | exact eq_false (beq_eq_false_iff_ne.1 c25d0)))
                                  have c25b1 : (t391 != 0) = false := bne_eq_false_iff_eq.mpr c25
                                  clear c25
                                  have H' := Aside0.mk H
                                  clear H
                                  go_wp2_with (first | ((with_reducible refine gate_callee (f := 11) rfl ?_); refine goesL_ (some 50) rfl rfl Try.func11 (by kernel_rfl) rfl #[.slice A0 l0.length c0] rfl (by (try simp only [List.map_toArray, List.map_cons, List.map_nil]); first | done | rfl | (simp only [List.length_drop, List.length_take]; rfl)) ?_; (with_reducible refine (abacistlaw30_first.calls _ _ l0 t394 _ ?side1 ?side2 A20.out).mono ?_); (case side1 => repeat (first | exact (Kd.C_below HR0.out HB.out) | (with_reducible refine Kd.C_alloc ?_ _) | (with_reducible refine Kd.C_drewN ?_ _) | (with_reducible refine Kd.C_drew ?_))); (case side2 => exact HC0.out); rintro e w' ⟨rfl, ⟨nd, rfl⟩⟩; refine ⟨_, rfl, ?_⟩) | (go_at_call 11; (with_reducible refine (abacistlaw30_first.calls _ _ l0 t394 _ ?side1 ?side2 A20.out).mono ?_); (case side1 => repeat (first | exact (Kd.C_below HR0.out HB.out) | (with_reducible refine Kd.C_alloc ?_ _) | (with_reducible refine Kd.C_drewN ?_ _) | (with_reducible refine Kd.C_drew ?_))); (case side2 => exact HC0.out); rintro e w' ⟨rfl, ⟨nd, rfl⟩⟩) | (go_at_call 11; (with_reducible refine (abacistlaw30_first.calls _ _ l1 t395 _ ?side1 ?side2 A23.out).mono ?_); (case side1 => repeat (first | exact (Kd.C_below HR1.out (by repeat (first | (with_reducible first | exact HB.out | apply below_alloc | apply pw_below_drewN | apply below_drew1) | exact HB.out))) | (with_reducible refine Kd.C_alloc ?_ _) | (with_reducible refine Kd.C_drewN ?_ _) | (with_reducible refine Kd.C_drew ?_))); (case side2 => exact HC1.out); rintro e w' ⟨rfl, ⟨nd, rfl⟩⟩))
                                  go_meet
                                  case rel => exact ⟨_, (false), (by first | rfl | (simp; done) | (simp [*]; done)), H', ⟨by have := HJ5.out; first | omega | exact Nat.le_refl _⟩, ⟨by (with_reducible repeat (first | apply Kd.R_alloc | apply Kd.R_drewN | apply Kd.R_drew)); exact Kd.R_mono HO388.out (fun _ hk => hk.2)⟩, ⟨by (with_reducible repeat (first | apply Kd.R_alloc | apply Kd.R_drewN | apply Kd.R_drew)); exact Kd.R_mono HO393.out (fun _ hk => hk.2)⟩, ⟨by repeat (first | (with_reducible first | exact HB.out | apply below_alloc | apply pw_below_drewN | apply below_drew1) | exact HB.out)⟩⟩
                                · rw [if_neg c25] at H
                                  have c25b0 : (t391 == 0) = false := beq_eq_false_iff_ne.mpr c25
                                  (try (have c25d0 : (t395 == 0) = false := by rw [c25b0] at c24b0; revert c24b0; generalize (t395 == 0) = z_; cases z_ <;> decide))
                                  (try (have c25d1 : (t395 = 0) = False := by first | exact eq_true (beq_iff_eq.1 c25d0) | exact eq_false (beq_eq_false_iff_ne.1 c25d0)))
                                  have c25b1 : (t391 != 0) = true := bne_iff_ne.mpr c25
                                  by_cases c26 : t391 = 10
                                  · rw [if_pos c26] at H
                                    have c26b0 : (t391 == 10) = true := beq_iff_eq.mpr c26
                                    have c26b1 : (t391 != 10) = false := bne_eq_false_iff_eq.mpr c26
                                    clear c26
                                    have H' := Aside0.mk H
                                    clear H
                                    go_wp2_with (first | ((with_reducible refine gate_callee (f := 11) rfl ?_); refine goesL_ (some 50) rfl rfl Try.func11 (by kernel_rfl) rfl #[.slice A0 l0.length c0] rfl (by (try simp only [List.map_toArray, List.map_cons, List.map_nil]); first | done | rfl | (simp only [List.length_drop, List.length_take]; rfl)) ?_; (with_reducible refine (abacistlaw30_first.calls _ _ l0 t394 _ ?side1 ?side2 A20.out).mono ?_); (case side1 => repeat (first | exact (Kd.C_below HR0.out HB.out) | (with_reducible refine Kd.C_alloc ?_ _) | (with_reducible refine Kd.C_drewN ?_ _) | (with_reducible refine Kd.C_drew ?_))); (case side2 => exact HC0.out); rintro e w' ⟨rfl, ⟨nd, rfl⟩⟩; refine ⟨_, rfl, ?_⟩) | (go_at_call 11; (with_reducible refine (abacistlaw30_first.calls _ _ l0 t394 _ ?side1 ?side2 A20.out).mono ?_); (case side1 => repeat (first | exact (Kd.C_below HR0.out HB.out) | (with_reducible refine Kd.C_alloc ?_ _) | (with_reducible refine Kd.C_drewN ?_ _) | (with_reducible refine Kd.C_drew ?_))); (case side2 => exact HC0.out); rintro e w' ⟨rfl, ⟨nd, rfl⟩⟩) | (go_at_call 11; (with_reducible refine (abacistlaw30_first.calls _ _ l1 t395 _ ?side1 ?side2 A23.out).mono ?_); (case side1 => repeat (first | exact (Kd.C_below HR1.out (by repeat (first | (with_reducible first | exact HB.out | apply below_alloc | apply pw_below_drewN | apply below_drew1) | exact HB.out))) | (with_reducible refine Kd.C_alloc ?_ _) | (with_reducible refine Kd.C_drewN ?_ _) | (with_reducible refine Kd.C_drew ?_))); (case side2 => exact HC1.out); rintro e w' ⟨rfl, ⟨nd, rfl⟩⟩; obtain ⟨Ao27, co27, eo27⟩ := Kd.R_slice HO393.out; subst eo27))
                                    go_meet
                                    case rel => exact ⟨_, (((t390.length : Int) != 0)), (by first | rfl | (simp; done) | (simp [*]; done)), H', ⟨by have := HJ5.out; first | omega | exact Nat.le_refl _⟩, ⟨by (with_reducible repeat (first | apply Kd.R_alloc | apply Kd.R_drewN | apply Kd.R_drew)); exact Kd.R_mono HO388.out (fun _ hk => hk.2)⟩, ⟨by (with_reducible repeat (first | apply Kd.R_alloc | apply Kd.R_drewN | apply Kd.R_drew)); exact Kd.R_mono HO393.out (fun _ hk => hk.2)⟩, ⟨by repeat (first | (with_reducible first | exact HB.out | apply below_alloc | apply pw_below_drewN | apply below_drew1) | exact HB.out)⟩⟩
                                  · rw [if_neg c26] at H
                                    have c26b0 : (t391 == 10) = false := beq_eq_false_iff_ne.mpr c26
                                    have c26b1 : (t391 != 10) = true := bne_iff_ne.mpr c26
                                    have H' := Aside0.mk H
                                    clear H
                                    go_wp2_with (first | ((with_reducible refine gate_callee (f := 11) rfl ?_); refine goesL_ (some 50) rfl rfl Try.func11 (by kernel_rfl) rfl #[.slice A0 l0.length c0] rfl (by (try simp only [List.map_toArray, List.map_cons, List.map_nil]); first | done | rfl | (simp only [List.length_drop, List.length_take]; rfl)) ?_; (with_reducible refine (abacistlaw30_first.calls _ _ l0 t394 _ ?side1 ?side2 A20.out).mono ?_); (case side1 => repeat (first | exact (Kd.C_below HR0.out HB.out) | (with_reducible refine Kd.C_alloc ?_ _) | (with_reducible refine Kd.C_drewN ?_ _) | (with_reducible refine Kd.C_drew ?_))); (case side2 => exact HC0.out); rintro e w' ⟨rfl, ⟨nd, rfl⟩⟩; refine ⟨_, rfl, ?_⟩) | (go_at_call 11; (with_reducible refine (abacistlaw30_first.calls _ _ l0 t394 _ ?side1 ?side2 A20.out).mono ?_); (case side1 => repeat (first | exact (Kd.C_below HR0.out HB.out) | (with_reducible refine Kd.C_alloc ?_ _) | (with_reducible refine Kd.C_drewN ?_ _) | (with_reducible refine Kd.C_drew ?_))); (case side2 => exact HC0.out); rintro e w' ⟨rfl, ⟨nd, rfl⟩⟩) | (go_at_call 11; (with_reducible refine (abacistlaw30_first.calls _ _ l1 t395 _ ?side1 ?side2 A23.out).mono ?_); (case side1 => repeat (first | exact (Kd.C_below HR1.out (by repeat (first | (with_reducible first | exact HB.out | apply below_alloc | apply pw_below_drewN | apply below_drew1) | exact HB.out))) | (with_reducible refine Kd.C_alloc ?_ _) | (with_reducible refine Kd.C_drewN ?_ _) | (with_reducible refine Kd.C_drew ?_))); (case side2 => exact HC1.out); rintro e w' ⟨rfl, ⟨nd, rfl⟩⟩))
                                    go_meet
                                    case rel => exact ⟨_, (true), (by first | rfl | (simp; done) | (simp [*]; done)), H', ⟨by have := HJ5.out; first | omega | exact Nat.le_refl _⟩, ⟨by (with_reducible repeat (first | apply Kd.R_alloc | apply Kd.R_drewN | apply Kd.R_drew)); exact Kd.R_mono HO388.out (fun _ hk => hk.2)⟩, ⟨by (with_reducible repeat (first | apply Kd.R_alloc | apply Kd.R_drewN | apply Kd.R_drew)); exact Kd.R_mono HO393.out (fun _ hk => hk.2)⟩, ⟨by repeat (first | (with_reducible first | exact HB.out | apply below_alloc | apply pw_below_drewN | apply below_drew1) | exact HB.out)⟩⟩
                        · as_aux_lemma =>
                            rw [if_neg c22] at H
                            have c22b0 : (t389 == 0) = false := beq_eq_false_iff_ne.mpr c22
                            (try (have c22d0 : (t394 == 1) = false := by rw [c22b0] at c21b0; revert c21b0; generalize (t394 == 1) = z_; cases z_ <;> decide))
                            (try (have c22d1 : (t394 = 1) = False := by first | exact eq_true (beq_iff_eq.1 c22d0) | exact eq_false (beq_eq_false_iff_ne.1 c22d0)))
                            have c22b1 : (t389 != 0) = true := bne_iff_ne.mpr c22
                            by_cases c28 : t389 = 10
                            · as_aux_lemma =>
                                rw [if_pos c28] at H
                                have c28b0 : (t389 == 10) = true := beq_iff_eq.mpr c28
                                have c28b1 : (t389 != 10) = false := bne_eq_false_iff_eq.mpr c28
                                clear c28
                                by_cases c29 : (t386.length : Int) = 0
                                · as_aux_lemma =>
                                    rw [if_pos c29] at H
                                    have c29b0 : ((t386.length : Int) == 0) = true := beq_iff_eq.mpr c29
                                    have c29b1 : ((t386.length : Int) != 0) = false := bne_eq_false_iff_eq.mpr c29
                                    clear c29
                                    replace H := Option.bind_eq_some_iff.mp H
                                    obtain ⟨t396, A300, H⟩ := H
                                    replace H : (if ((t391 == 0) != (t396 == 0)) = true then (abacistlaw30_SeriesLogs.j1 kj5 l0 l1 a2 t386 t389 t390 t391 true) else (if t391 = 0 then (abacistlaw30_SeriesLogs.j1 kj5 l0 l1 a2 t386 t389 t390 t391 false) else (if t391 = 10 then (abacistlaw30_SeriesLogs.j1 kj5 l0 l1 a2 t386 t389 t390 t391 ((t390.length : Int) != 0)) else (abacistlaw30_SeriesLogs.j1 kj5 l0 l1 a2 t386 t389 t390 t391 true)))) = some r := H
                                    have A30 := Aside0.mk A300
                                    clear A300
                                    by_cases c31 : ((t391 == 0) != (t396 == 0)) = true
                                    · rw [if_pos c31] at H
                                      have c31b0 : ((t391 == 0) != (t396 == 0)) = true := c31
                                      (try (have c31b1 : decide ((t391 == 0) = (t396 == 0)) = false := by simpa using c31))
                                      (try (have c31b2 : ((t391 == 0) == (t396 == 0)) = false := by simpa using c31))
                                      (try (have c31b3 : ¬ ((t391 == 0) = (t396 == 0)) := by simpa using c31))
                                      clear c31
                                      have H' := Aside0.mk H
                                      clear H
                                      go_wp2_with (first | ((with_reducible refine gate_callee (f := 11) rfl ?_); refine goesL_ (some 50) rfl rfl Try.func11 (by kernel_rfl) rfl #[.slice A0 l0.length c0] rfl (by (try simp only [List.map_toArray, List.map_cons, List.map_nil]); first | done | rfl | (simp only [List.length_drop, List.length_take]; rfl)) ?_; (with_reducible refine (abacistlaw30_first.calls _ _ l0 t394 _ ?side1 ?side2 A20.out).mono ?_); (case side1 => repeat (first | exact (Kd.C_below HR0.out HB.out) | (with_reducible refine Kd.C_alloc ?_ _) | (with_reducible refine Kd.C_drewN ?_ _) | (with_reducible refine Kd.C_drew ?_))); (case side2 => exact HC0.out); rintro e w' ⟨rfl, ⟨nd, rfl⟩⟩; refine ⟨_, rfl, ?_⟩; obtain ⟨Ao32, co32, eo32⟩ := Kd.R_slice HO388.out; subst eo32) | (go_at_call 11; (with_reducible refine (abacistlaw30_first.calls _ _ l0 t394 _ ?side1 ?side2 A20.out).mono ?_); (case side1 => repeat (first | exact (Kd.C_below HR0.out HB.out) | (with_reducible refine Kd.C_alloc ?_ _) | (with_reducible refine Kd.C_drewN ?_ _) | (with_reducible refine Kd.C_drew ?_))); (case side2 => exact HC0.out); rintro e w' ⟨rfl, ⟨nd, rfl⟩⟩; obtain ⟨Ao32, co32, eo32⟩ := Kd.R_slice HO388.out; subst eo32) | (go_at_call 11; (with_reducible refine (abacistlaw30_first.calls _ _ l1 t396 _ ?side1 ?side2 A30.out).mono ?_); (case side1 => repeat (first | exact (Kd.C_below HR1.out (by repeat (first | (with_reducible first | exact HB.out | apply below_alloc | apply pw_below_drewN | apply below_drew1) | exact HB.out))) | (with_reducible refine Kd.C_alloc ?_ _) | (with_reducible refine Kd.C_drewN ?_ _) | (with_reducible refine Kd.C_drew ?_))); (case side2 => exact HC1.out); rintro e w' ⟨rfl, ⟨nd, rfl⟩⟩))
                                      go_meet
                                      case rel => exact ⟨_, (true), (by first | rfl | (simp; done) | (simp [*]; done)), H', ⟨by have := HJ5.out; first | omega | exact Nat.le_refl _⟩, ⟨by (with_reducible repeat (first | apply Kd.R_alloc | apply Kd.R_drewN | apply Kd.R_drew)); exact Kd.R_mono HO388.out (fun _ hk => hk.2)⟩, ⟨by (with_reducible repeat (first | apply Kd.R_alloc | apply Kd.R_drewN | apply Kd.R_drew)); exact Kd.R_mono HO393.out (fun _ hk => hk.2)⟩, ⟨by repeat (first | (with_reducible first | exact HB.out | apply below_alloc | apply pw_below_drewN | apply below_drew1) | exact HB.out)⟩⟩
                                    · as_aux_lemma =>
                                        rw [if_neg c31] at H
                                        have c31b0 : ((t391 == 0) != (t396 == 0)) = false := by simpa using c31
                                        (try (have c31b1 : decide ((t391 == 0) = (t396 == 0)) = true := by simpa using c31))
                                        (try (have c31b2 : ((t391 == 0) == (t396 == 0)) = true := by simpa using c31))
                                        clear c31
                                        by_cases c33 : t391 = 0
                                        · rw [if_pos c33] at H
                                          have c33b0 : (t391 == 0) = true := beq_iff_eq.mpr c33
                                          (try (have c33d0 : (t396 == 0) = true := by rw [c33b0] at c31b0; revert c31b0; generalize (t396 == 0) = z_; cases z_ <;> decide))
                                          (try (have c33d1 : (t396 = 0) = True := by first | exact eq_true (beq_iff_eq.1 c33d0) | exact eq_false (beq_eq_false_iff_ne.1 c33d0)))
                                          have c33b1 : (t391 != 0) = false := bne_eq_false_iff_eq.mpr c33
                                          clear c33
                                          have H' := Aside0.mk H
                                          clear H
                                          go_wp2_with (first | ((with_reducible refine gate_callee (f := 11) rfl ?_); refine goesL_ (some 50) rfl rfl Try.func11 (by kernel_rfl) rfl #[.slice A0 l0.length c0] rfl (by (try simp only [List.map_toArray, List.map_cons, List.map_nil]); first | done | rfl | (simp only [List.length_drop, List.length_take]; rfl)) ?_; (with_reducible refine (abacistlaw30_first.calls _ _ l0 t394 _ ?side1 ?side2 A20.out).mono ?_); (case side1 => repeat (first | exact (Kd.C_below HR0.out HB.out) | (with_reducible refine Kd.C_alloc ?_ _) | (with_reducible refine Kd.C_drewN ?_ _) | (with_reducible refine Kd.C_drew ?_))); (case side2 => exact HC0.out); rintro e w' ⟨rfl, ⟨nd, rfl⟩⟩; refine ⟨_, rfl, ?_⟩; obtain ⟨Ao34, co34, eo34⟩ := Kd.R_slice HO388.out; subst eo34) | (go_at_call 11; (with_reducible refine (abacistlaw30_first.calls _ _ l0 t394 _ ?side1 ?side2 A20.out).mono ?_); (case side1 => repeat (first | exact (Kd.C_below HR0.out HB.out) | (with_reducible refine Kd.C_alloc ?_ _) | (with_reducible refine Kd.C_drewN ?_ _) | (with_reducible refine Kd.C_drew ?_))); (case side2 => exact HC0.out); rintro e w' ⟨rfl, ⟨nd, rfl⟩⟩; obtain ⟨Ao34, co34, eo34⟩ := Kd.R_slice HO388.out; subst eo34) | (go_at_call 11; (with_reducible refine (abacistlaw30_first.calls _ _ l1 t396 _ ?side1 ?side2 A30.out).mono ?_); (case side1 => repeat (first | exact (Kd.C_below HR1.out (by repeat (first | (with_reducible first | exact HB.out | apply below_alloc | apply pw_below_drewN | apply below_drew1) | exact HB.out))) | (with_reducible refine Kd.C_alloc ?_ _) | (with_reducible refine Kd.C_drewN ?_ _) | (with_reducible refine Kd.C_drew ?_))); (case side2 => exact HC1.out); rintro e w' ⟨rfl, ⟨nd, rfl⟩⟩))
                                          go_meet
                                          case rel => exact ⟨_, (false), (by first | rfl | (simp; done) | (simp [*]; done)), H', ⟨by have := HJ5.out; first | omega | exact Nat.le_refl _⟩, ⟨by (with_reducible repeat (first | apply Kd.R_alloc | apply Kd.R_drewN | apply Kd.R_drew)); exact Kd.R_mono HO388.out (fun _ hk => hk.2)⟩, ⟨by (with_reducible repeat (first | apply Kd.R_alloc | apply Kd.R_drewN | apply Kd.R_drew)); exact Kd.R_mono HO393.out (fun _ hk => hk.2)⟩, ⟨by repeat (first | (with_reducible first | exact HB.out | apply below_alloc | apply pw_below_drewN | apply below_drew1) | exact HB.out)⟩⟩
                                        · rw [if_neg c33] at H
                                          have c33b0 : (t391 == 0) = false := beq_eq_false_iff_ne.mpr c33
                                          (try (have c33d0 : (t396 == 0) = false := by rw [c33b0] at c31b0; revert c31b0; generalize (t396 == 0) = z_; cases z_ <;> decide))
                                          (try (have c33d1 : (t396 = 0) = False := by first | exact eq_true (beq_iff_eq.1 c33d0) | exact eq_false (beq_eq_false_iff_ne.1 c33d0)))
                                          have c33b1 : (t391 != 0) = true := bne_iff_ne.mpr c33
                                          by_cases c35 : t391 = 10
                                          · rw [if_pos c35] at H
                                            have c35b0 : (t391 == 10) = true := beq_iff_eq.mpr c35
                                            have c35b1 : (t391 != 10) = false := bne_eq_false_iff_eq.mpr c35
                                            clear c35
                                            have H' := Aside0.mk H
                                            clear H
                                            go_wp2_with (first | ((with_reducible refine gate_callee (f := 11) rfl ?_); refine goesL_ (some 50) rfl rfl Try.func11 (by kernel_rfl) rfl #[.slice A0 l0.length c0] rfl (by (try simp only [List.map_toArray, List.map_cons, List.map_nil]); first | done | rfl | (simp only [List.length_drop, List.length_take]; rfl)) ?_; (with_reducible refine (abacistlaw30_first.calls _ _ l0 t394 _ ?side1 ?side2 A20.out).mono ?_); (case side1 => repeat (first | exact (Kd.C_below HR0.out HB.out) | (with_reducible refine Kd.C_alloc ?_ _) | (with_reducible refine Kd.C_drewN ?_ _) | (with_reducible refine Kd.C_drew ?_))); (case side2 => exact HC0.out); rintro e w' ⟨rfl, ⟨nd, rfl⟩⟩; refine ⟨_, rfl, ?_⟩; obtain ⟨Ao36, co36, eo36⟩ := Kd.R_slice HO388.out; subst eo36) | (go_at_call 11; (with_reducible refine (abacistlaw30_first.calls _ _ l0 t394 _ ?side1 ?side2 A20.out).mono ?_); (case side1 => repeat (first | exact (Kd.C_below HR0.out HB.out) | (with_reducible refine Kd.C_alloc ?_ _) | (with_reducible refine Kd.C_drewN ?_ _) | (with_reducible refine Kd.C_drew ?_))); (case side2 => exact HC0.out); rintro e w' ⟨rfl, ⟨nd, rfl⟩⟩; obtain ⟨Ao36, co36, eo36⟩ := Kd.R_slice HO388.out; subst eo36) | (go_at_call 11; (with_reducible refine (abacistlaw30_first.calls _ _ l1 t396 _ ?side1 ?side2 A30.out).mono ?_); (case side1 => repeat (first | exact (Kd.C_below HR1.out (by repeat (first | (with_reducible first | exact HB.out | apply below_alloc | apply pw_below_drewN | apply below_drew1) | exact HB.out))) | (with_reducible refine Kd.C_alloc ?_ _) | (with_reducible refine Kd.C_drewN ?_ _) | (with_reducible refine Kd.C_drew ?_))); (case side2 => exact HC1.out); rintro e w' ⟨rfl, ⟨nd, rfl⟩⟩; obtain ⟨Ao37, co37, eo37⟩ := Kd.R_slice HO393.out; subst eo37))
                                            go_meet
                                            case rel => exact ⟨_, (((t390.length : Int) != 0)), (by first | rfl | (simp; done) | (simp [*]; done)), H', ⟨by have := HJ5.out; first | omega | exact Nat.le_refl _⟩, ⟨by (with_reducible repeat (first | apply Kd.R_alloc | apply Kd.R_drewN | apply Kd.R_drew)); exact Kd.R_mono HO388.out (fun _ hk => hk.2)⟩, ⟨by (with_reducible repeat (first | apply Kd.R_alloc | apply Kd.R_drewN | apply Kd.R_drew)); exact Kd.R_mono HO393.out (fun _ hk => hk.2)⟩, ⟨by repeat (first | (with_reducible first | exact HB.out | apply below_alloc | apply pw_below_drewN | apply below_drew1) | exact HB.out)⟩⟩
                                          · rw [if_neg c35] at H
                                            have c35b0 : (t391 == 10) = false := beq_eq_false_iff_ne.mpr c35
                                            have c35b1 : (t391 != 10) = true := bne_iff_ne.mpr c35
                                            have H' := Aside0.mk H
                                            clear H
                                            go_wp2_with (first | ((with_reducible refine gate_callee (f := 11) rfl ?_); refine goesL_ (some 50) rfl rfl Try.func11 (by kernel_rfl) rfl #[.slice A0 l0.length c0] rfl (by (try simp only [List.map_toArray, List.map_cons, List.map_nil]); first | done | rfl | (simp only [List.length_drop, List.length_take]; rfl)) ?_; (with_reducible refine (abacistlaw30_first.calls _ _ l0 t394 _ ?side1 ?side2 A20.out).mono ?_); (case side1 => repeat (first | exact (Kd.C_below HR0.out HB.out) | (with_reducible refine Kd.C_alloc ?_ _) | (with_reducible refine Kd.C_drewN ?_ _) | (with_reducible refine Kd.C_drew ?_))); (case side2 => exact HC0.out); rintro e w' ⟨rfl, ⟨nd, rfl⟩⟩; refine ⟨_, rfl, ?_⟩; obtain ⟨Ao38, co38, eo38⟩ := Kd.R_slice HO388.out; subst eo38) | (go_at_call 11; (with_reducible refine (abacistlaw30_first.calls _ _ l0 t394 _ ?side1 ?side2 A20.out).mono ?_); (case side1 => repeat (first | exact (Kd.C_below HR0.out HB.out) | (with_reducible refine Kd.C_alloc ?_ _) | (with_reducible refine Kd.C_drewN ?_ _) | (with_reducible refine Kd.C_drew ?_))); (case side2 => exact HC0.out); rintro e w' ⟨rfl, ⟨nd, rfl⟩⟩; obtain ⟨Ao38, co38, eo38⟩ := Kd.R_slice HO388.out; subst eo38) | (go_at_call 11; (with_reducible refine (abacistlaw30_first.calls _ _ l1 t396 _ ?side1 ?side2 A30.out).mono ?_); (case side1 => repeat (first | exact (Kd.C_below HR1.out (by repeat (first | (with_reducible first | exact HB.out | apply below_alloc | apply pw_below_drewN | apply below_drew1) | exact HB.out))) | (with_reducible refine Kd.C_alloc ?_ _) | (with_reducible refine Kd.C_drewN ?_ _) | (with_reducible refine Kd.C_drew ?_))); (case side2 => exact HC1.out); rintro e w' ⟨rfl, ⟨nd, rfl⟩⟩))
                                            go_meet
                                            case rel => exact ⟨_, (true), (by first | rfl | (simp; done) | (simp [*]; done)), H', ⟨by have := HJ5.out; first | omega | exact Nat.le_refl _⟩, ⟨by (with_reducible repeat (first | apply Kd.R_alloc | apply Kd.R_drewN | apply Kd.R_drew)); exact Kd.R_mono HO388.out (fun _ hk => hk.2)⟩, ⟨by (with_reducible repeat (first | apply Kd.R_alloc | apply Kd.R_drewN | apply Kd.R_drew)); exact Kd.R_mono HO393.out (fun _ hk => hk.2)⟩, ⟨by repeat (first | (with_reducible first | exact HB.out | apply below_alloc | apply pw_below_drewN | apply below_drew1) | exact HB.out)⟩⟩
                                · rw [if_neg c29] at H
                                  have c29b0 : ((t386.length : Int) == 0) = false := beq_eq_false_iff_ne.mpr c29
                                  have c29b1 : ((t386.length : Int) != 0) = true := bne_iff_ne.mpr c29
                                  have c29b2 : ¬ (t386 = []) := fun h_ => c29 (by rw [h_]; rfl)
                                  have H' := Aside0.mk H
                                  clear H
                                  go_wp2_with (first | ((with_reducible refine gate_callee (f := 11) rfl ?_); refine goesL_ (some 50) rfl rfl Try.func11 (by kernel_rfl) rfl #[.slice A0 l0.length c0] rfl (by (try simp only [List.map_toArray, List.map_cons, List.map_nil]); first | done | rfl | (simp only [List.length_drop, List.length_take]; rfl)) ?_; (with_reducible refine (abacistlaw30_first.calls _ _ l0 t394 _ ?side1 ?side2 A20.out).mono ?_); (case side1 => repeat (first | exact (Kd.C_below HR0.out HB.out) | (with_reducible refine Kd.C_alloc ?_ _) | (with_reducible refine Kd.C_drewN ?_ _) | (with_reducible refine Kd.C_drew ?_))); (case side2 => exact HC0.out); rintro e w' ⟨rfl, ⟨nd, rfl⟩⟩; refine ⟨_, rfl, ?_⟩; obtain ⟨Ao39, co39, eo39⟩ := Kd.R_slice HO388.out; subst eo39) | (go_at_call 11; (with_reducible refine (abacistlaw30_first.calls _ _ l0 t394 _ ?side1 ?side2 A20.out).mono ?_); (case side1 => repeat (first | exact (Kd.C_below HR0.out HB.out) | (with_reducible refine Kd.C_alloc ?_ _) | (with_reducible refine Kd.C_drewN ?_ _) | (with_reducible refine Kd.C_drew ?_))); (case side2 => exact HC0.out); rintro e w' ⟨rfl, ⟨nd, rfl⟩⟩; obtain ⟨Ao39, co39, eo39⟩ := Kd.R_slice HO388.out; subst eo39))
                                  go_meet
                                  case rel => exact ⟨_, (true), (by first | rfl | (simp; done) | (simp [*]; done)), H', ⟨by have := HJ5.out; first | omega | exact Nat.le_refl _⟩, ⟨by (with_reducible repeat (first | apply Kd.R_alloc | apply Kd.R_drewN | apply Kd.R_drew)); exact Kd.R_mono HO388.out (fun _ hk => hk.2)⟩, ⟨by (with_reducible repeat (first | apply Kd.R_alloc | apply Kd.R_drewN | apply Kd.R_drew)); exact Kd.R_mono HO393.out (fun _ hk => hk.2)⟩, ⟨by repeat (first | (with_reducible first | exact HB.out | apply below_alloc | apply pw_below_drewN | apply below_drew1) | exact HB.out)⟩⟩
                            · rw [if_neg c28] at H
                              have c28b0 : (t389 == 10) = false := beq_eq_false_iff_ne.mpr c28
                              have c28b1 : (t389 != 10) = true := bne_iff_ne.mpr c28
                              have H' := Aside0.mk H
                              clear H
                              go_wp2_with (first | ((with_reducible refine gate_callee (f := 11) rfl ?_); refine goesL_ (some 50) rfl rfl Try.func11 (by kernel_rfl) rfl #[.slice A0 l0.length c0] rfl (by (try simp only [List.map_toArray, List.map_cons, List.map_nil]); first | done | rfl | (simp only [List.length_drop, List.length_take]; rfl)) ?_; (with_reducible refine (abacistlaw30_first.calls _ _ l0 t394 _ ?side1 ?side2 A20.out).mono ?_); (case side1 => repeat (first | exact (Kd.C_below HR0.out HB.out) | (with_reducible refine Kd.C_alloc ?_ _) | (with_reducible refine Kd.C_drewN ?_ _) | (with_reducible refine Kd.C_drew ?_))); (case side2 => exact HC0.out); rintro e w' ⟨rfl, ⟨nd, rfl⟩⟩; refine ⟨_, rfl, ?_⟩) | (go_at_call 11; (with_reducible refine (abacistlaw30_first.calls _ _ l0 t394 _ ?side1 ?side2 A20.out).mono ?_); (case side1 => repeat (first | exact (Kd.C_below HR0.out HB.out) | (with_reducible refine Kd.C_alloc ?_ _) | (with_reducible refine Kd.C_drewN ?_ _) | (with_reducible refine Kd.C_drew ?_))); (case side2 => exact HC0.out); rintro e w' ⟨rfl, ⟨nd, rfl⟩⟩))
                              go_meet
                              case rel => exact ⟨_, (true), (by first | rfl | (simp; done) | (simp [*]; done)), H', ⟨by have := HJ5.out; first | omega | exact Nat.le_refl _⟩, ⟨by (with_reducible repeat (first | apply Kd.R_alloc | apply Kd.R_drewN | apply Kd.R_drew)); exact Kd.R_mono HO388.out (fun _ hk => hk.2)⟩, ⟨by (with_reducible repeat (first | apply Kd.R_alloc | apply Kd.R_drewN | apply Kd.R_drew)); exact Kd.R_mono HO393.out (fun _ hk => hk.2)⟩, ⟨by repeat (first | (with_reducible first | exact HB.out | apply below_alloc | apply pw_below_drewN | apply below_drew1) | exact HB.out)⟩⟩
                  case rest =>
                    clear HC17
                    try clear c1
                    try clear c2
                    try clear p2
                    try clear c3
                    try clear c5
                    try clear c6
                    try clear c7
                    try clear c8
                    try clear c9
                    try clear c10
                    try clear c11
                    try clear c13
                    try clear c13b0
                    try clear c14
                    try clear c14b0
                    try clear c14b1
                    try clear c21
                    try clear c21b0
                    try clear c21b1
                    try clear c21b2
                    try clear c22
                    try clear c22b0
                    try clear c22b1
                    try clear c24
                    try clear c24b0
                    try clear c24b1
                    try clear c24b2
                    try clear c25
                    try clear c25b0
                    try clear c25b1
                    try clear c26
                    try clear c26b0
                    try clear c26b1
                    try clear c28
                    try clear c28b0
                    try clear c28b1
                    try clear c29
                    try clear c29b0
                    try clear c29b1
                    try clear c29b2
                    try clear c31
                    try clear c31b0
                    try clear c31b1
                    try clear c31b2
                    try clear c33
                    try clear c33b0
                    try clear c33b1
                    try clear c35
                    try clear c35b0
                    try clear c35b1
                    try clear p2
                    obtain ⟨kq, x86_16, rfl, HA, HJ16, HO_7, HO_9, HB⟩ := hcut
                    cases kq with
                    | zero => exact absurd HA.out (by simp [abacistlaw30_SeriesLogs.j1])
                    | succ kj16 =>
                      have H := HA.out
                      clear HA
                      simp only [abacistlaw30_SeriesLogs.j1] at H
                      by_cases c40 : x86_16 = true
                      · subst c40
                        have H1 : (some false) = some r := by rw [if_pos rfl] at H; exact H
                        clear H
                        have H := H1
                        clear H1
                        obtain rfl := Option.some.inj H
                        exact absurd hr_.out (by decide)
                      · as_aux_lemma =>
                          replace c40 := Bool.eq_false_iff.mpr c40
                          subst c40
                          have H1 : (if t389 = 0 then (if (t386.length : Int) = a2 then (if a2 > 0 then (if 0 < (t386.length : Int) then (if (rd t386 0) = 0 then ((abacistref07_Derive.f kj16 t386).bind fun t398 => ((abacistref07_Mul.f kj16 t398 l0).bind fun t401 => ((abacistlaw30_cut.f kj16 t401 (mx (wrap64 (a2 - 1)) 0)).bind fun t404 => ((abacistlaw30_cut.f kj16 l0 a2).bind fun t407 => ((abacistref07_Derive.f kj16 t407).bind fun t410 => ((abacistlaw30_cut.f kj16 t410 (mx (wrap64 (a2 - 1)) 0)).bind fun t413 => ((abacistref04_Same.f kj16 t404 t413).bind fun t416 => (abacistlaw30_SeriesLogs.j2 kj16 l0 l1 a2 t386 t390 t391 (mx (wrap64 (a2 - 1)) 0) (!t416))))))))) else (abacistlaw30_SeriesLogs.j2 kj16 l0 l1 a2 t386 t390 t391 (mx (wrap64 (a2 - 1)) 0) true)) else (none)) else ((abacistref07_Derive.f kj16 t386).bind fun t417 => ((abacistref07_Mul.f kj16 t417 l0).bind fun t420 => ((abacistlaw30_cut.f kj16 t420 (mx (wrap64 (a2 - 1)) 0)).bind fun t423 => ((abacistlaw30_cut.f kj16 l0 a2).bind fun t426 => ((abacistref07_Derive.f kj16 t426).bind fun t429 => ((abacistlaw30_cut.f kj16 t429 (mx (wrap64 (a2 - 1)) 0)).bind fun t432 => ((abacistref04_Same.f kj16 t423 t432).bind fun t435 => (abacistlaw30_SeriesLogs.j2 kj16 l0 l1 a2 t386 t390 t391 (mx (wrap64 (a2 - 1)) 0) (!t435)))))))))) else (abacistlaw30_SeriesLogs.j2 kj16 l0 l1 a2 t386 t390 t391 (mx (wrap64 (a2 - 1)) 0) true)) else (abacistlaw30_SeriesLogs.j3 kj16 l1 a2 t390 t391 (mx (wrap64 (a2 - 1)) 0))) = some r := by rw [if_neg (show ¬ (false = true) by decide)] at H; exact H
                          clear H
                          have H := H1
                          clear H1
                          obtain ⟨ji41, hji41⟩ : ∃ j_ : Int, (mx (wrap64 (a2 - 1)) 0) = j_ := ⟨_, rfl⟩
                          (try (have hji41w : (mx (IntKind.i64.wrap (a2 - 1)) 0) = ji41 := by simpa only [i64_w] using hji41))
                          replace H : (if t389 = 0 then (if (t386.length : Int) = a2 then (if a2 > 0 then (if 0 < (t386.length : Int) then (if (rd t386 0) = 0 then ((abacistref07_Derive.f kj16 t386).bind fun t398 => ((abacistref07_Mul.f kj16 t398 l0).bind fun t401 => ((abacistlaw30_cut.f kj16 t401 (ji41)).bind fun t404 => ((abacistlaw30_cut.f kj16 l0 a2).bind fun t407 => ((abacistref07_Derive.f kj16 t407).bind fun t410 => ((abacistlaw30_cut.f kj16 t410 (ji41)).bind fun t413 => ((abacistref04_Same.f kj16 t404 t413).bind fun t416 => (abacistlaw30_SeriesLogs.j2 kj16 l0 l1 a2 t386 t390 t391 ji41 (!t416))))))))) else (abacistlaw30_SeriesLogs.j2 kj16 l0 l1 a2 t386 t390 t391 ji41 true)) else (none)) else ((abacistref07_Derive.f kj16 t386).bind fun t417 => ((abacistref07_Mul.f kj16 t417 l0).bind fun t420 => ((abacistlaw30_cut.f kj16 t420 (ji41)).bind fun t423 => ((abacistlaw30_cut.f kj16 l0 a2).bind fun t426 => ((abacistref07_Derive.f kj16 t426).bind fun t429 => ((abacistlaw30_cut.f kj16 t429 (ji41)).bind fun t432 => ((abacistref04_Same.f kj16 t423 t432).bind fun t435 => (abacistlaw30_SeriesLogs.j2 kj16 l0 l1 a2 t386 t390 t391 ji41 (!t435)))))))))) else (abacistlaw30_SeriesLogs.j2 kj16 l0 l1 a2 t386 t390 t391 ji41 true)) else (abacistlaw30_SeriesLogs.j3 kj16 l1 a2 t390 t391 ji41)) = some r := by first | (rw [hji41] at H; exact H) | (simp only [hji41] at H ⊢; exact H)
                          have hji41_ : (if (wrap64 (a2 - 1)) < 0 then 0 else (wrap64 (a2 - 1))) = ji41 := hji41
                          have HC42 := Aside0.mk H
                          clear H
                          go_upto_if 91 with (fail)
                          go_cut [] (fun wc => ∃ (kq : Nat), Aside0 (abacistlaw30_SeriesLogs.j3 kq l1 a2 t390 t391 ji41 = some r) ∧ Aside0 (kq ≤ kj16) ∧ Aside0 (Kd.R (Kd.int .u64) 29 wc w.heap.size (fun _ => True) v392 t390) ∧ Aside0 (Below w.heap.size w wc))
                          case first =>
                            have H := HC42.out
                            clear HC42
                            by_cases c43 : t389 = 0
                            · as_aux_lemma =>
                                rw [if_pos c43] at H
                                have c43b0 : (t389 == 0) = true := beq_iff_eq.mpr c43
                                (try (have c43d0 : (t394 == 1) = true := by rw [c43b0] at c21b0; revert c21b0; generalize (t394 == 1) = z_; cases z_ <;> decide))
                                (try (have c43d1 : (t394 = 1) = True := by first | exact eq_true (beq_iff_eq.1 c43d0) | exact eq_false (beq_eq_false_iff_ne.1 c43d0)))
                                have c43b1 : (t389 != 0) = false := bne_eq_false_iff_eq.mpr c43
                                clear c43
                                (first | rw [c43b0] | (simp only [i64_w, i32_w]; rw [c43b0]) | skip)
                                have HC44 := Aside0.mk H
                                clear H
                                go_upto_region 13 with (fail)
                                go_cut [121] (fun v121 wc => ∃ (kq : Nat) (x121_43 : Bool), v121 = .bool x121_43 ∧ Aside0 (abacistlaw30_SeriesLogs.j2 kq l0 l1 a2 t386 t390 t391 ji41 x121_43 = some r) ∧ Aside0 (kq ≤ kj16) ∧ Aside0 (Kd.R (Kd.int .u64) 29 wc w.heap.size (fun k_ => some k_ ≠ (v392 : Value).ownBlock) v387 t386) ∧ Aside0 (Kd.R (Kd.int .u64) 29 wc w.heap.size (fun k_ => some k_ ≠ (v387 : Value).ownBlock) v392 t390) ∧ Aside0 (Below w.heap.size w wc))
                                case first =>
                                  have H := HC44.out
                                  clear HC44
                                  by_cases c45 : (t386.length : Int) = a2
                                  · as_aux_lemma =>
                                      rw [if_pos c45] at H
                                      have c45b0 : ((t386.length : Int) == a2) = true := beq_iff_eq.mpr c45
                                      have c45b1 : ((t386.length : Int) != a2) = false := bne_eq_false_iff_eq.mpr c45
                                      clear c45
                                      (first | rw [c45b0] | (simp only [i64_w, i32_w]; rw [c45b0]) | skip)
                                      by_cases c46 : a2 > 0
                                      · as_aux_lemma =>
                                          rw [if_pos c46] at H
                                          have c46b0 : decide (0 < a2) = true := decide_eq_true c46
                                          clear c46
                                          by_cases c47 : 0 < (t386.length : Int)
                                          · as_aux_lemma =>
                                              rw [if_pos c47] at H
                                              have c47b0 : decide (0 < (t386.length : Int)) = true := decide_eq_true c47
                                              have c47b1 : decide (0 < t386.length) = true := decide_eq_true (by omega)
                                              clear c47
                                              by_cases c48 : (rd t386 0) = 0
                                              · as_aux_lemma =>
                                                  rw [if_pos c48] at H
                                                  have c48b0 : ((rd t386 0) == 0) = true := beq_iff_eq.mpr c48
                                                  have c48b1 : ((rd t386 0) != 0) = false := bne_eq_false_iff_eq.mpr c48
                                                  clear c48
                                                  replace H := Option.bind_eq_some_iff.mp H
                                                  obtain ⟨t398, A490, H⟩ := H
                                                  replace H : ((abacistref07_Mul.f kj16 t398 l0).bind fun t401 => ((abacistlaw30_cut.f kj16 t401 (ji41)).bind fun t404 => ((abacistlaw30_cut.f kj16 l0 a2).bind fun t407 => ((abacistref07_Derive.f kj16 t407).bind fun t410 => ((abacistlaw30_cut.f kj16 t410 (ji41)).bind fun t413 => ((abacistref04_Same.f kj16 t404 t413).bind fun t416 => (abacistlaw30_SeriesLogs.j2 kj16 l0 l1 a2 t386 t390 t391 ji41 (!t416)))))))) = some r := H
                                                  have A49 := Aside0.mk A490
                                                  clear A490
                                                  replace H := Option.bind_eq_some_iff.mp H
                                                  obtain ⟨t401, A500, H⟩ := H
                                                  replace H : ((abacistlaw30_cut.f kj16 t401 (ji41)).bind fun t404 => ((abacistlaw30_cut.f kj16 l0 a2).bind fun t407 => ((abacistref07_Derive.f kj16 t407).bind fun t410 => ((abacistlaw30_cut.f kj16 t410 (ji41)).bind fun t413 => ((abacistref04_Same.f kj16 t404 t413).bind fun t416 => (abacistlaw30_SeriesLogs.j2 kj16 l0 l1 a2 t386 t390 t391 ji41 (!t416))))))) = some r := H
                                                  have A50 := Aside0.mk A500
                                                  clear A500
                                                  replace H := Option.bind_eq_some_iff.mp H
                                                  obtain ⟨t404, A510, H⟩ := H
                                                  replace H : ((abacistlaw30_cut.f kj16 l0 a2).bind fun t407 => ((abacistref07_Derive.f kj16 t407).bind fun t410 => ((abacistlaw30_cut.f kj16 t410 (ji41)).bind fun t413 => ((abacistref04_Same.f kj16 t404 t413).bind fun t416 => (abacistlaw30_SeriesLogs.j2 kj16 l0 l1 a2 t386 t390 t391 ji41 (!t416)))))) = some r := H
                                                  have A51 := Aside0.mk A510
                                                  clear A510
                                                  replace H := Option.bind_eq_some_iff.mp H
                                                  obtain ⟨t407, A520, H⟩ := H
                                                  replace H : ((abacistref07_Derive.f kj16 t407).bind fun t410 => ((abacistlaw30_cut.f kj16 t410 (ji41)).bind fun t413 => ((abacistref04_Same.f kj16 t404 t413).bind fun t416 => (abacistlaw30_SeriesLogs.j2 kj16 l0 l1 a2 t386 t390 t391 ji41 (!t416))))) = some r := H
                                                  have A52 := Aside0.mk A520
                                                  clear A520
                                                  replace H := Option.bind_eq_some_iff.mp H
                                                  obtain ⟨t410, A530, H⟩ := H
                                                  replace H : ((abacistlaw30_cut.f kj16 t410 (ji41)).bind fun t413 => ((abacistref04_Same.f kj16 t404 t413).bind fun t416 => (abacistlaw30_SeriesLogs.j2 kj16 l0 l1 a2 t386 t390 t391 ji41 (!t416)))) = some r := H
                                                  have A53 := Aside0.mk A530
                                                  clear A530
                                                  replace H := Option.bind_eq_some_iff.mp H
                                                  obtain ⟨t413, A540, H⟩ := H
                                                  replace H : ((abacistref04_Same.f kj16 t404 t413).bind fun t416 => (abacistlaw30_SeriesLogs.j2 kj16 l0 l1 a2 t386 t390 t391 ji41 (!t416))) = some r := H
                                                  have A54 := Aside0.mk A540
                                                  clear A540
                                                  replace H := Option.bind_eq_some_iff.mp H
                                                  obtain ⟨t416, A550, H⟩ := H
                                                  replace H : (abacistlaw30_SeriesLogs.j2 kj16 l0 l1 a2 t386 t390 t391 ji41 (!t416)) = some r := H
                                                  have A55 := Aside0.mk A550
                                                  clear A550
                                                  have H' := Aside0.mk H
                                                  clear H
                                                  obtain ⟨Ao56, co56, eo56⟩ := Kd.R_slice HO_7.out
                                                  subst eo56
                                                  have p397 : 0 ≤ (0 : Int) := (by omega)
                                                  have q397 : 0 < (t386.length : Int) := of_decide_eq_true (by first | (with_reducible assumption) | assumption)
                                                  obtain ⟨ad397, e397, hx397_0⟩ := Kd.at_int (Kd.R_reads' HO_7.out).2.2 0 p397 q397
                                                  cases e397
                                                  have qi397 : (0 < t386.length) = True := eq_true (by omega)
                                                  (try rw [show ((0 : Int)).toNat = 0 from rfl] at hx397_0)
                                                  (try rw [Addr.add_zero'] at hx397_0)
                                                  replace p397 := eq_true p397
                                                  replace q397 := eq_true q397
                                                  go_wp2_with (first | (go_at_call 23; (with_reducible refine (abacistref07_Derive.calls kj16 _ _ t386 t398 _ ?side1 ?side2 A49.out).mono ?_); (case side1 => repeat (first | exact (Kd.R_reads' HO_7.out).2.2 | (with_reducible refine Kd.C_alloc ?_ _) | (with_reducible refine Kd.C_drewN ?_ _) | (with_reducible refine Kd.C_drew ?_))); (case side2 => exact (Kd.R_reads' HO_7.out).2.1); rintro e w57 ⟨v399, rfl, ho0, hb⟩; have n0_ := Aside0.mk (Kd.R_elder' (by (with_reducible repeat (first | apply Kd.R_alloc | apply Kd.R_drewN | apply Kd.R_drew)); exact HO_7.out) (Kd.R_base ho0) hb); have n1_ := Aside0.mk (Kd.R_elder' (by (with_reducible repeat (first | apply Kd.R_alloc | apply Kd.R_drewN | apply Kd.R_drew)); exact HO_9.out) (Kd.R_base ho0) hb); have n2_ := Aside0.mk (Kd.R_lower (Kd.R_new' (Kd.R_new' ho0 (Kd.R_lt (by (with_reducible repeat (first | apply Kd.R_alloc | apply Kd.R_drewN | apply Kd.R_drew)); exact HO_7.out))) (Kd.R_lt (by (with_reducible repeat (first | apply Kd.R_alloc | apply Kd.R_drewN | apply Kd.R_drew)); exact HO_9.out))) (below_size (by repeat (first | (with_reducible first | exact HB.out | apply below_alloc | apply pw_below_drewN | apply below_drew1) | exact HB.out)))); have n3_ := Aside0.mk (below_step (by repeat (first | (with_reducible first | exact HB.out | apply below_alloc | apply pw_below_drewN | apply below_drew1) | exact HB.out)) hb); clear HO_7; clear HO_9; clear HB; have HO_7 := n0_; have HO_9 := n1_; have HO400 := n2_; have HB := n3_; clear n0_ n1_ n2_ n3_; (try clear hb); (try clear hb2); (try clear hk); (try clear hi); (try clear ho0); obtain ⟨Ao58, co58, eo58⟩ := Kd.R_slice HO400.out; subst eo58) | (go_at_call 14; (with_reducible refine (abacistref07_Mul.calls kj16 _ _ t398 _ _ l0 t401 _ ?side1 ?side2 ?side3 ?side4 A50.out).mono ?_); (case side1 => repeat (first | exact (Kd.R_reads' HO400.out).2.2 | (with_reducible refine Kd.C_alloc ?_ _) | (with_reducible refine Kd.C_drewN ?_ _) | (with_reducible refine Kd.C_drew ?_))); (case side2 => exact (Kd.R_reads' HO400.out).2.1); (case side3 => repeat (first | exact (Kd.C_below HR0.out HB.out) | (with_reducible refine Kd.C_alloc ?_ _) | (with_reducible refine Kd.C_drewN ?_ _) | (with_reducible refine Kd.C_drew ?_))); (case side4 => exact HC0.out); rintro e w59 ⟨v402, rfl, ho0, hb⟩; have n0_ := Aside0.mk (Kd.R_elder' (by (with_reducible repeat (first | apply Kd.R_alloc | apply Kd.R_drewN | apply Kd.R_drew)); exact HO_7.out) (Kd.R_base ho0) hb); have n1_ := Aside0.mk (Kd.R_elder' (by (with_reducible repeat (first | apply Kd.R_alloc | apply Kd.R_drewN | apply Kd.R_drew)); exact HO_9.out) (Kd.R_base ho0) hb); have n2_ := Aside0.mk (Kd.R_elder' (by (with_reducible repeat (first | apply Kd.R_alloc | apply Kd.R_drewN | apply Kd.R_drew)); exact HO400.out) (Kd.R_base ho0) hb); have n3_ := Aside0.mk (Kd.R_lower (Kd.R_new' (Kd.R_new' (Kd.R_new' ho0 (Kd.R_lt (by (with_reducible repeat (first | apply Kd.R_alloc | apply Kd.R_drewN | apply Kd.R_drew)); exact HO_7.out))) (Kd.R_lt (by (with_reducible repeat (first | apply Kd.R_alloc | apply Kd.R_drewN | apply Kd.R_drew)); exact HO_9.out))) (Kd.R_lt (by (with_reducible repeat (first | apply Kd.R_alloc | apply Kd.R_drewN | apply Kd.R_drew)); exact HO400.out))) (below_size (by repeat (first | (with_reducible first | exact HB.out | apply below_alloc | apply pw_below_drewN | apply below_drew1) | exact HB.out)))); have n4_ := Aside0.mk (below_step (by repeat (first | (with_reducible first | exact HB.out | apply below_alloc | apply pw_below_drewN | apply below_drew1) | exact HB.out)) hb); clear HO_7; clear HO_9; clear HO400; clear HB; have HO_7 := n0_; have HO_9 := n1_; have HO400 := n2_; have HO403 := n3_; have HB := n4_; clear n0_ n1_ n2_ n3_ n4_; (try clear hb); (try clear hb2); (try clear hk); (try clear hi); (try clear ho0); obtain ⟨Ao60, co60, eo60⟩ := Kd.R_slice HO403.out; subst eo60) | (go_at_call 13; (with_reducible refine (abacistlaw30_cut.calls kj16 _ _ t401 ji41 t404 _ ?side1 ?side2 A51.out).mono ?_); (case side1 => repeat (first | exact (Kd.R_reads' HO403.out).2.2 | (with_reducible refine Kd.C_alloc ?_ _) | (with_reducible refine Kd.C_drewN ?_ _) | (with_reducible refine Kd.C_drew ?_))); (case side2 => exact (Kd.R_reads' HO403.out).2.1); rintro e w61 ⟨v405, rfl, ho0, hb⟩; have n0_ := Aside0.mk (Kd.R_elder' (by (with_reducible repeat (first | apply Kd.R_alloc | apply Kd.R_drewN | apply Kd.R_drew)); exact HO_7.out) (Kd.R_base ho0) hb); have n1_ := Aside0.mk (Kd.R_elder' (by (with_reducible repeat (first | apply Kd.R_alloc | apply Kd.R_drewN | apply Kd.R_drew)); exact HO_9.out) (Kd.R_base ho0) hb); have n2_ := Aside0.mk (Kd.R_elder' (by (with_reducible repeat (first | apply Kd.R_alloc | apply Kd.R_drewN | apply Kd.R_drew)); exact HO400.out) (Kd.R_base ho0) hb); have n3_ := Aside0.mk (Kd.R_elder' (by (with_reducible repeat (first | apply Kd.R_alloc | apply Kd.R_drewN | apply Kd.R_drew)); exact HO403.out) (Kd.R_base ho0) hb); have n4_ := Aside0.mk (Kd.R_lower (Kd.R_new' (Kd.R_new' (Kd.R_new' (Kd.R_new' ho0 (Kd.R_lt (by (with_reducible repeat (first | apply Kd.R_alloc | apply Kd.R_drewN | apply Kd.R_drew)); exact HO_7.out))) (Kd.R_lt (by (with_reducible repeat (first | apply Kd.R_alloc | apply Kd.R_drewN | apply Kd.R_drew)); exact HO_9.out))) (Kd.R_lt (by (with_reducible repeat (first | apply Kd.R_alloc | apply Kd.R_drewN | apply Kd.R_drew)); exact HO400.out))) (Kd.R_lt (by (with_reducible repeat (first | apply Kd.R_alloc | apply Kd.R_drewN | apply Kd.R_drew)); exact HO403.out))) (below_size (by repeat (first | (with_reducible first | exact HB.out | apply below_alloc | apply pw_below_drewN | apply below_drew1) | exact HB.out)))); have n5_ := Aside0.mk (below_step (by repeat (first | (with_reducible first | exact HB.out | apply below_alloc | apply pw_below_drewN | apply below_drew1) | exact HB.out)) hb); clear HO_7; clear HO_9; clear HO400; clear HO403; clear HB; have HO_7 := n0_; have HO_9 := n1_; have HO400 := n2_; have HO403 := n3_; have HO406 := n4_; have HB := n5_; clear n0_ n1_ n2_ n3_ n4_ n5_; (try clear hb); (try clear hb2); (try clear hk); (try clear hi); (try clear ho0)) | (go_at_call 13; (with_reducible refine (abacistlaw30_cut.calls kj16 _ _ l0 a2 t407 _ ?side1 ?side2 A52.out).mono ?_); (case side1 => repeat (first | exact (Kd.C_below HR0.out HB.out) | (with_reducible refine Kd.C_alloc ?_ _) | (with_reducible refine Kd.C_drewN ?_ _) | (with_reducible refine Kd.C_drew ?_))); (case side2 => exact HC0.out); rintro e w62 ⟨v408, rfl, ho0, hb⟩; have n0_ := Aside0.mk (Kd.R_elder' (by (with_reducible repeat (first | apply Kd.R_alloc | apply Kd.R_drewN | apply Kd.R_drew)); exact HO_7.out) (Kd.R_base ho0) hb); have n1_ := Aside0.mk (Kd.R_elder' (by (with_reducible repeat (first | apply Kd.R_alloc | apply Kd.R_drewN | apply Kd.R_drew)); exact HO_9.out) (Kd.R_base ho0) hb); have n2_ := Aside0.mk (Kd.R_elder' (by (with_reducible repeat (first | apply Kd.R_alloc | apply Kd.R_drewN | apply Kd.R_drew)); exact HO400.out) (Kd.R_base ho0) hb); have n3_ := Aside0.mk (Kd.R_elder' (by (with_reducible repeat (first | apply Kd.R_alloc | apply Kd.R_drewN | apply Kd.R_drew)); exact HO403.out) (Kd.R_base ho0) hb); have n4_ := Aside0.mk (Kd.R_elder' (by (with_reducible repeat (first | apply Kd.R_alloc | apply Kd.R_drewN | apply Kd.R_drew)); exact HO406.out) (Kd.R_base ho0) hb); have n5_ := Aside0.mk (Kd.R_lower (Kd.R_new' (Kd.R_new' (Kd.R_new' (Kd.R_new' (Kd.R_new' ho0 (Kd.R_lt (by (with_reducible repeat (first | apply Kd.R_alloc | apply Kd.R_drewN | apply Kd.R_drew)); exact HO_7.out))) (Kd.R_lt (by (with_reducible repeat (first | apply Kd.R_alloc | apply Kd.R_drewN | apply Kd.R_drew)); exact HO_9.out))) (Kd.R_lt (by (with_reducible repeat (first | apply Kd.R_alloc | apply Kd.R_drewN | apply Kd.R_drew)); exact HO400.out))) (Kd.R_lt (by (with_reducible repeat (first | apply Kd.R_alloc | apply Kd.R_drewN | apply Kd.R_drew)); exact HO403.out))) (Kd.R_lt (by (with_reducible repeat (first | apply Kd.R_alloc | apply Kd.R_drewN | apply Kd.R_drew)); exact HO406.out))) (below_size (by repeat (first | (with_reducible first | exact HB.out | apply below_alloc | apply pw_below_drewN | apply below_drew1) | exact HB.out)))); have n6_ := Aside0.mk (below_step (by repeat (first | (with_reducible first | exact HB.out | apply below_alloc | apply pw_below_drewN | apply below_drew1) | exact HB.out)) hb); clear HO_7; clear HO_9; clear HO400; clear HO403; clear HO406; clear HB; have HO_7 := n0_; have HO_9 := n1_; have HO400 := n2_; have HO403 := n3_; have HO406 := n4_; have HO409 := n5_; have HB := n6_; clear n0_ n1_ n2_ n3_ n4_ n5_ n6_; (try clear hb); (try clear hb2); (try clear hk); (try clear hi); (try clear ho0); obtain ⟨Ao63, co63, eo63⟩ := Kd.R_slice HO409.out; subst eo63) | (go_at_call 23; (with_reducible refine (abacistref07_Derive.calls kj16 _ _ t407 t410 _ ?side1 ?side2 A53.out).mono ?_); (case side1 => repeat (first | exact (Kd.R_reads' HO409.out).2.2 | (with_reducible refine Kd.C_alloc ?_ _) | (with_reducible refine Kd.C_drewN ?_ _) | (with_reducible refine Kd.C_drew ?_))); (case side2 => exact (Kd.R_reads' HO409.out).2.1); rintro e w64 ⟨v411, rfl, ho0, hb⟩; have n0_ := Aside0.mk (Kd.R_elder' (by (with_reducible repeat (first | apply Kd.R_alloc | apply Kd.R_drewN | apply Kd.R_drew)); exact HO_7.out) (Kd.R_base ho0) hb); have n1_ := Aside0.mk (Kd.R_elder' (by (with_reducible repeat (first | apply Kd.R_alloc | apply Kd.R_drewN | apply Kd.R_drew)); exact HO_9.out) (Kd.R_base ho0) hb); have n2_ := Aside0.mk (Kd.R_elder' (by (with_reducible repeat (first | apply Kd.R_alloc | apply Kd.R_drewN | apply Kd.R_drew)); exact HO400.out) (Kd.R_base ho0) hb); have n3_ := Aside0.mk (Kd.R_elder' (by (with_reducible repeat (first | apply Kd.R_alloc | apply Kd.R_drewN | apply Kd.R_drew)); exact HO403.out) (Kd.R_base ho0) hb); have n4_ := Aside0.mk (Kd.R_elder' (by (with_reducible repeat (first | apply Kd.R_alloc | apply Kd.R_drewN | apply Kd.R_drew)); exact HO406.out) (Kd.R_base ho0) hb); have n5_ := Aside0.mk (Kd.R_elder' (by (with_reducible repeat (first | apply Kd.R_alloc | apply Kd.R_drewN | apply Kd.R_drew)); exact HO409.out) (Kd.R_base ho0) hb); have n6_ := Aside0.mk (Kd.R_lower (Kd.R_new' (Kd.R_new' (Kd.R_new' (Kd.R_new' (Kd.R_new' (Kd.R_new' ho0 (Kd.R_lt (by (with_reducible repeat (first | apply Kd.R_alloc | apply Kd.R_drewN | apply Kd.R_drew)); exact HO_7.out))) (Kd.R_lt (by (with_reducible repeat (first | apply Kd.R_alloc | apply Kd.R_drewN | apply Kd.R_drew)); exact HO_9.out))) (Kd.R_lt (by (with_reducible repeat (first | apply Kd.R_alloc | apply Kd.R_drewN | apply Kd.R_drew)); exact HO400.out))) (Kd.R_lt (by (with_reducible repeat (first | apply Kd.R_alloc | apply Kd.R_drewN | apply Kd.R_drew)); exact HO403.out))) (Kd.R_lt (by (with_reducible repeat (first | apply Kd.R_alloc | apply Kd.R_drewN | apply Kd.R_drew)); exact HO406.out))) (Kd.R_lt (by (with_reducible repeat (first | apply Kd.R_alloc | apply Kd.R_drewN | apply Kd.R_drew)); exact HO409.out))) (below_size (by repeat (first | (with_reducible first | exact HB.out | apply below_alloc | apply pw_below_drewN | apply below_drew1) | exact HB.out)))); have n7_ := Aside0.mk (below_step (by repeat (first | (with_reducible first | exact HB.out | apply below_alloc | apply pw_below_drewN | apply below_drew1) | exact HB.out)) hb); clear HO_7; clear HO_9; clear HO400; clear HO403; clear HO406; clear HO409; clear HB; have HO_7 := n0_; have HO_9 := n1_; have HO400 := n2_; have HO403 := n3_; have HO406 := n4_; have HO409 := n5_; have HO412 := n6_; have HB := n7_; clear n0_ n1_ n2_ n3_ n4_ n5_ n6_ n7_; (try clear hb); (try clear hb2); (try clear hk); (try clear hi); (try clear ho0); obtain ⟨Ao65, co65, eo65⟩ := Kd.R_slice HO412.out; subst eo65) | (go_at_call 13; (with_reducible refine (abacistlaw30_cut.calls kj16 _ _ t410 ji41 t413 _ ?side1 ?side2 A54.out).mono ?_); (case side1 => repeat (first | exact (Kd.R_reads' HO412.out).2.2 | (with_reducible refine Kd.C_alloc ?_ _) | (with_reducible refine Kd.C_drewN ?_ _) | (with_reducible refine Kd.C_drew ?_))); (case side2 => exact (Kd.R_reads' HO412.out).2.1); rintro e w66 ⟨v414, rfl, ho0, hb⟩; have n0_ := Aside0.mk (Kd.R_elder' (by (with_reducible repeat (first | apply Kd.R_alloc | apply Kd.R_drewN | apply Kd.R_drew)); exact HO_7.out) (Kd.R_base ho0) hb); have n1_ := Aside0.mk (Kd.R_elder' (by (with_reducible repeat (first | apply Kd.R_alloc | apply Kd.R_drewN | apply Kd.R_drew)); exact HO_9.out) (Kd.R_base ho0) hb); have n2_ := Aside0.mk (Kd.R_elder' (by (with_reducible repeat (first | apply Kd.R_alloc | apply Kd.R_drewN | apply Kd.R_drew)); exact HO400.out) (Kd.R_base ho0) hb); have n3_ := Aside0.mk (Kd.R_elder' (by (with_reducible repeat (first | apply Kd.R_alloc | apply Kd.R_drewN | apply Kd.R_drew)); exact HO403.out) (Kd.R_base ho0) hb); have n4_ := Aside0.mk (Kd.R_elder' (by (with_reducible repeat (first | apply Kd.R_alloc | apply Kd.R_drewN | apply Kd.R_drew)); exact HO406.out) (Kd.R_base ho0) hb); have n5_ := Aside0.mk (Kd.R_elder' (by (with_reducible repeat (first | apply Kd.R_alloc | apply Kd.R_drewN | apply Kd.R_drew)); exact HO409.out) (Kd.R_base ho0) hb); have n6_ := Aside0.mk (Kd.R_elder' (by (with_reducible repeat (first | apply Kd.R_alloc | apply Kd.R_drewN | apply Kd.R_drew)); exact HO412.out) (Kd.R_base ho0) hb); have n7_ := Aside0.mk (Kd.R_lower (Kd.R_new' (Kd.R_new' (Kd.R_new' (Kd.R_new' (Kd.R_new' (Kd.R_new' (Kd.R_new' ho0 (Kd.R_lt (by (with_reducible repeat (first | apply Kd.R_alloc | apply Kd.R_drewN | apply Kd.R_drew)); exact HO_7.out))) (Kd.R_lt (by (with_reducible repeat (first | apply Kd.R_alloc | apply Kd.R_drewN | apply Kd.R_drew)); exact HO_9.out))) (Kd.R_lt (by (with_reducible repeat (first | apply Kd.R_alloc | apply Kd.R_drewN | apply Kd.R_drew)); exact HO400.out))) (Kd.R_lt (by (with_reducible repeat (first | apply Kd.R_alloc | apply Kd.R_drewN | apply Kd.R_drew)); exact HO403.out))) (Kd.R_lt (by (with_reducible repeat (first | apply Kd.R_alloc | apply Kd.R_drewN | apply Kd.R_drew)); exact HO406.out))) (Kd.R_lt (by (with_reducible repeat (first | apply Kd.R_alloc | apply Kd.R_drewN | apply Kd.R_drew)); exact HO409.out))) (Kd.R_lt (by (with_reducible repeat (first | apply Kd.R_alloc | apply Kd.R_drewN | apply Kd.R_drew)); exact HO412.out))) (below_size (by repeat (first | (with_reducible first | exact HB.out | apply below_alloc | apply pw_below_drewN | apply below_drew1) | exact HB.out)))); have n8_ := Aside0.mk (below_step (by repeat (first | (with_reducible first | exact HB.out | apply below_alloc | apply pw_below_drewN | apply below_drew1) | exact HB.out)) hb); clear HO_7; clear HO_9; clear HO400; clear HO403; clear HO406; clear HO409; clear HO412; clear HB; have HO_7 := n0_; have HO_9 := n1_; have HO400 := n2_; have HO403 := n3_; have HO406 := n4_; have HO409 := n5_; have HO412 := n6_; have HO415 := n7_; have HB := n8_; clear n0_ n1_ n2_ n3_ n4_ n5_ n6_ n7_ n8_; (try clear hb); (try clear hb2); (try clear hk); (try clear hi); (try clear ho0); obtain ⟨Ao67, co67, eo67⟩ := Kd.R_slice HO406.out; subst eo67; obtain ⟨Ao68, co68, eo68⟩ := Kd.R_slice HO415.out; subst eo68) | (go_at_call 12; (with_reducible refine (abacistref04_Same.calls kj16 _ _ t404 _ _ t413 t416 _ ?side1 ?side2 ?side3 ?side4 A55.out).mono ?_); (case side1 => repeat (first | exact (Kd.R_reads' HO406.out).2.2 | (with_reducible refine Kd.C_alloc ?_ _) | (with_reducible refine Kd.C_drewN ?_ _) | (with_reducible refine Kd.C_drew ?_))); (case side2 => exact (Kd.R_reads' HO406.out).2.1); (case side3 => repeat (first | exact (Kd.R_reads' HO415.out).2.2 | (with_reducible refine Kd.C_alloc ?_ _) | (with_reducible refine Kd.C_drewN ?_ _) | (with_reducible refine Kd.C_drew ?_))); (case side4 => exact (Kd.R_reads' HO415.out).2.1); rintro e w' ⟨rfl, ⟨nd, rfl⟩⟩))
                                                  go_meet
                                                  case rel => exact ⟨_, (!t416), (by first | rfl | (simp; done) | (simp [*]; done)), H', ⟨by have := HJ5.out; have := HJ16.out; first | omega | exact Nat.le_refl _⟩, ⟨by (with_reducible repeat (first | apply Kd.R_alloc | apply Kd.R_drewN | apply Kd.R_drew)); exact Kd.R_mono HO_7.out (fun _ hk => hk.1.1.1.1.1.1)⟩, ⟨by (with_reducible repeat (first | apply Kd.R_alloc | apply Kd.R_drewN | apply Kd.R_drew)); exact Kd.R_mono HO_9.out (fun _ hk => hk.1.1.1.1.1.1)⟩, ⟨by repeat (first | (with_reducible first | exact HB.out | apply below_alloc | apply pw_below_drewN | apply below_drew1) | exact HB.out)⟩⟩
                                              · rw [if_neg c48] at H
                                                have c48b0 : ((rd t386 0) == 0) = false := beq_eq_false_iff_ne.mpr c48
                                                have c48b1 : ((rd t386 0) != 0) = true := bne_iff_ne.mpr c48
                                                have H' := Aside0.mk H
                                                clear H
                                                obtain ⟨Ao69, co69, eo69⟩ := Kd.R_slice HO_7.out
                                                subst eo69
                                                have p397 : 0 ≤ (0 : Int) := (by omega)
                                                have q397 : 0 < (t386.length : Int) := of_decide_eq_true (by first | (with_reducible assumption) | assumption)
                                                obtain ⟨ad397, e397, hx397_0⟩ := Kd.at_int (Kd.R_reads' HO_7.out).2.2 0 p397 q397
                                                cases e397
                                                have qi397 : (0 < t386.length) = True := eq_true (by omega)
                                                (try rw [show ((0 : Int)).toNat = 0 from rfl] at hx397_0)
                                                (try rw [Addr.add_zero'] at hx397_0)
                                                replace p397 := eq_true p397
                                                replace q397 := eq_true q397
                                                go_wp2
                                                go_meet
                                                case rel => exact ⟨_, (true), (by first | rfl | (simp; done) | (simp [*]; done)), H', ⟨by have := HJ5.out; have := HJ16.out; first | omega | exact Nat.le_refl _⟩, ⟨by (with_reducible repeat (first | apply Kd.R_alloc | apply Kd.R_drewN | apply Kd.R_drew)); exact HO_7.out⟩, ⟨by (with_reducible repeat (first | apply Kd.R_alloc | apply Kd.R_drewN | apply Kd.R_drew)); exact HO_9.out⟩, ⟨by repeat (first | (with_reducible first | exact HB.out | apply below_alloc | apply pw_below_drewN | apply below_drew1) | exact HB.out)⟩⟩
                                          · rw [if_neg c47] at H
                                            exact absurd H (by simp)
                                      · as_aux_lemma =>
                                          rw [if_neg c46] at H
                                          have c46b0 : decide (0 < a2) = false := decide_eq_false c46
                                          clear c46
                                          replace H := Option.bind_eq_some_iff.mp H
                                          obtain ⟨t417, A700, H⟩ := H
                                          replace H : ((abacistref07_Mul.f kj16 t417 l0).bind fun t420 => ((abacistlaw30_cut.f kj16 t420 (ji41)).bind fun t423 => ((abacistlaw30_cut.f kj16 l0 a2).bind fun t426 => ((abacistref07_Derive.f kj16 t426).bind fun t429 => ((abacistlaw30_cut.f kj16 t429 (ji41)).bind fun t432 => ((abacistref04_Same.f kj16 t423 t432).bind fun t435 => (abacistlaw30_SeriesLogs.j2 kj16 l0 l1 a2 t386 t390 t391 ji41 (!t435)))))))) = some r := H
                                          have A70 := Aside0.mk A700
                                          clear A700
                                          replace H := Option.bind_eq_some_iff.mp H
                                          obtain ⟨t420, A710, H⟩ := H
                                          replace H : ((abacistlaw30_cut.f kj16 t420 (ji41)).bind fun t423 => ((abacistlaw30_cut.f kj16 l0 a2).bind fun t426 => ((abacistref07_Derive.f kj16 t426).bind fun t429 => ((abacistlaw30_cut.f kj16 t429 (ji41)).bind fun t432 => ((abacistref04_Same.f kj16 t423 t432).bind fun t435 => (abacistlaw30_SeriesLogs.j2 kj16 l0 l1 a2 t386 t390 t391 ji41 (!t435))))))) = some r := H
                                          have A71 := Aside0.mk A710
                                          clear A710
                                          replace H := Option.bind_eq_some_iff.mp H
                                          obtain ⟨t423, A720, H⟩ := H
                                          replace H : ((abacistlaw30_cut.f kj16 l0 a2).bind fun t426 => ((abacistref07_Derive.f kj16 t426).bind fun t429 => ((abacistlaw30_cut.f kj16 t429 (ji41)).bind fun t432 => ((abacistref04_Same.f kj16 t423 t432).bind fun t435 => (abacistlaw30_SeriesLogs.j2 kj16 l0 l1 a2 t386 t390 t391 ji41 (!t435)))))) = some r := H
                                          have A72 := Aside0.mk A720
                                          clear A720
                                          replace H := Option.bind_eq_some_iff.mp H
                                          obtain ⟨t426, A730, H⟩ := H
                                          replace H : ((abacistref07_Derive.f kj16 t426).bind fun t429 => ((abacistlaw30_cut.f kj16 t429 (ji41)).bind fun t432 => ((abacistref04_Same.f kj16 t423 t432).bind fun t435 => (abacistlaw30_SeriesLogs.j2 kj16 l0 l1 a2 t386 t390 t391 ji41 (!t435))))) = some r := H
                                          have A73 := Aside0.mk A730
                                          clear A730
                                          replace H := Option.bind_eq_some_iff.mp H
                                          obtain ⟨t429, A740, H⟩ := H
                                          replace H : ((abacistlaw30_cut.f kj16 t429 (ji41)).bind fun t432 => ((abacistref04_Same.f kj16 t423 t432).bind fun t435 => (abacistlaw30_SeriesLogs.j2 kj16 l0 l1 a2 t386 t390 t391 ji41 (!t435)))) = some r := H
                                          have A74 := Aside0.mk A740
                                          clear A740
                                          replace H := Option.bind_eq_some_iff.mp H
                                          obtain ⟨t432, A750, H⟩ := H
                                          replace H : ((abacistref04_Same.f kj16 t423 t432).bind fun t435 => (abacistlaw30_SeriesLogs.j2 kj16 l0 l1 a2 t386 t390 t391 ji41 (!t435))) = some r := H
                                          have A75 := Aside0.mk A750
                                          clear A750
                                          replace H := Option.bind_eq_some_iff.mp H
                                          obtain ⟨t435, A760, H⟩ := H
                                          replace H : (abacistlaw30_SeriesLogs.j2 kj16 l0 l1 a2 t386 t390 t391 ji41 (!t435)) = some r := H
                                          have A76 := Aside0.mk A760
                                          clear A760
                                          have H' := Aside0.mk H
                                          clear H
                                          obtain ⟨Ao77, co77, eo77⟩ := Kd.R_slice HO_7.out
                                          subst eo77
                                          go_wp2_with (first | (go_at_call 23; (with_reducible refine (abacistref07_Derive.calls kj16 _ _ t386 t417 _ ?side1 ?side2 A70.out).mono ?_); (case side1 => repeat (first | exact (Kd.R_reads' HO_7.out).2.2 | (with_reducible refine Kd.C_alloc ?_ _) | (with_reducible refine Kd.C_drewN ?_ _) | (with_reducible refine Kd.C_drew ?_))); (case side2 => exact (Kd.R_reads' HO_7.out).2.1); rintro e w78 ⟨v418, rfl, ho0, hb⟩; have n0_ := Aside0.mk (Kd.R_elder' (by (with_reducible repeat (first | apply Kd.R_alloc | apply Kd.R_drewN | apply Kd.R_drew)); exact HO_7.out) (Kd.R_base ho0) hb); have n1_ := Aside0.mk (Kd.R_elder' (by (with_reducible repeat (first | apply Kd.R_alloc | apply Kd.R_drewN | apply Kd.R_drew)); exact HO_9.out) (Kd.R_base ho0) hb); have n2_ := Aside0.mk (Kd.R_lower (Kd.R_new' (Kd.R_new' ho0 (Kd.R_lt (by (with_reducible repeat (first | apply Kd.R_alloc | apply Kd.R_drewN | apply Kd.R_drew)); exact HO_7.out))) (Kd.R_lt (by (with_reducible repeat (first | apply Kd.R_alloc | apply Kd.R_drewN | apply Kd.R_drew)); exact HO_9.out))) (below_size (by repeat (first | (with_reducible first | exact HB.out | apply below_alloc | apply pw_below_drewN | apply below_drew1) | exact HB.out)))); have n3_ := Aside0.mk (below_step (by repeat (first | (with_reducible first | exact HB.out | apply below_alloc | apply pw_below_drewN | apply below_drew1) | exact HB.out)) hb); clear HO_7; clear HO_9; clear HB; have HO_7 := n0_; have HO_9 := n1_; have HO419 := n2_; have HB := n3_; clear n0_ n1_ n2_ n3_; (try clear hb); (try clear hb2); (try clear hk); (try clear hi); (try clear ho0); obtain ⟨Ao79, co79, eo79⟩ := Kd.R_slice HO419.out; subst eo79) | (go_at_call 14; (with_reducible refine (abacistref07_Mul.calls kj16 _ _ t417 _ _ l0 t420 _ ?side1 ?side2 ?side3 ?side4 A71.out).mono ?_); (case side1 => repeat (first | exact (Kd.R_reads' HO419.out).2.2 | (with_reducible refine Kd.C_alloc ?_ _) | (with_reducible refine Kd.C_drewN ?_ _) | (with_reducible refine Kd.C_drew ?_))); (case side2 => exact (Kd.R_reads' HO419.out).2.1); (case side3 => repeat (first | exact (Kd.C_below HR0.out HB.out) | (with_reducible refine Kd.C_alloc ?_ _) | (with_reducible refine Kd.C_drewN ?_ _) | (with_reducible refine Kd.C_drew ?_))); (case side4 => exact HC0.out); rintro e w80 ⟨v421, rfl, ho0, hb⟩; have n0_ := Aside0.mk (Kd.R_elder' (by (with_reducible repeat (first | apply Kd.R_alloc | apply Kd.R_drewN | apply Kd.R_drew)); exact HO_7.out) (Kd.R_base ho0) hb); have n1_ := Aside0.mk (Kd.R_elder' (by (with_reducible repeat (first | apply Kd.R_alloc | apply Kd.R_drewN | apply Kd.R_drew)); exact HO_9.out) (Kd.R_base ho0) hb); have n2_ := Aside0.mk (Kd.R_elder' (by (with_reducible repeat (first | apply Kd.R_alloc | apply Kd.R_drewN | apply Kd.R_drew)); exact HO419.out) (Kd.R_base ho0) hb); have n3_ := Aside0.mk (Kd.R_lower (Kd.R_new' (Kd.R_new' (Kd.R_new' ho0 (Kd.R_lt (by (with_reducible repeat (first | apply Kd.R_alloc | apply Kd.R_drewN | apply Kd.R_drew)); exact HO_7.out))) (Kd.R_lt (by (with_reducible repeat (first | apply Kd.R_alloc | apply Kd.R_drewN | apply Kd.R_drew)); exact HO_9.out))) (Kd.R_lt (by (with_reducible repeat (first | apply Kd.R_alloc | apply Kd.R_drewN | apply Kd.R_drew)); exact HO419.out))) (below_size (by repeat (first | (with_reducible first | exact HB.out | apply below_alloc | apply pw_below_drewN | apply below_drew1) | exact HB.out)))); have n4_ := Aside0.mk (below_step (by repeat (first | (with_reducible first | exact HB.out | apply below_alloc | apply pw_below_drewN | apply below_drew1) | exact HB.out)) hb); clear HO_7; clear HO_9; clear HO419; clear HB; have HO_7 := n0_; have HO_9 := n1_; have HO419 := n2_; have HO422 := n3_; have HB := n4_; clear n0_ n1_ n2_ n3_ n4_; (try clear hb); (try clear hb2); (try clear hk); (try clear hi); (try clear ho0); obtain ⟨Ao81, co81, eo81⟩ := Kd.R_slice HO422.out; subst eo81) | (go_at_call 13; (with_reducible refine (abacistlaw30_cut.calls kj16 _ _ t420 ji41 t423 _ ?side1 ?side2 A72.out).mono ?_); (case side1 => repeat (first | exact (Kd.R_reads' HO422.out).2.2 | (with_reducible refine Kd.C_alloc ?_ _) | (with_reducible refine Kd.C_drewN ?_ _) | (with_reducible refine Kd.C_drew ?_))); (case side2 => exact (Kd.R_reads' HO422.out).2.1); rintro e w82 ⟨v424, rfl, ho0, hb⟩; have n0_ := Aside0.mk (Kd.R_elder' (by (with_reducible repeat (first | apply Kd.R_alloc | apply Kd.R_drewN | apply Kd.R_drew)); exact HO_7.out) (Kd.R_base ho0) hb); have n1_ := Aside0.mk (Kd.R_elder' (by (with_reducible repeat (first | apply Kd.R_alloc | apply Kd.R_drewN | apply Kd.R_drew)); exact HO_9.out) (Kd.R_base ho0) hb); have n2_ := Aside0.mk (Kd.R_elder' (by (with_reducible repeat (first | apply Kd.R_alloc | apply Kd.R_drewN | apply Kd.R_drew)); exact HO419.out) (Kd.R_base ho0) hb); have n3_ := Aside0.mk (Kd.R_elder' (by (with_reducible repeat (first | apply Kd.R_alloc | apply Kd.R_drewN | apply Kd.R_drew)); exact HO422.out) (Kd.R_base ho0) hb); have n4_ := Aside0.mk (Kd.R_lower (Kd.R_new' (Kd.R_new' (Kd.R_new' (Kd.R_new' ho0 (Kd.R_lt (by (with_reducible repeat (first | apply Kd.R_alloc | apply Kd.R_drewN | apply Kd.R_drew)); exact HO_7.out))) (Kd.R_lt (by (with_reducible repeat (first | apply Kd.R_alloc | apply Kd.R_drewN | apply Kd.R_drew)); exact HO_9.out))) (Kd.R_lt (by (with_reducible repeat (first | apply Kd.R_alloc | apply Kd.R_drewN | apply Kd.R_drew)); exact HO419.out))) (Kd.R_lt (by (with_reducible repeat (first | apply Kd.R_alloc | apply Kd.R_drewN | apply Kd.R_drew)); exact HO422.out))) (below_size (by repeat (first | (with_reducible first | exact HB.out | apply below_alloc | apply pw_below_drewN | apply below_drew1) | exact HB.out)))); have n5_ := Aside0.mk (below_step (by repeat (first | (with_reducible first | exact HB.out | apply below_alloc | apply pw_below_drewN | apply below_drew1) | exact HB.out)) hb); clear HO_7; clear HO_9; clear HO419; clear HO422; clear HB; have HO_7 := n0_; have HO_9 := n1_; have HO419 := n2_; have HO422 := n3_; have HO425 := n4_; have HB := n5_; clear n0_ n1_ n2_ n3_ n4_ n5_; (try clear hb); (try clear hb2); (try clear hk); (try clear hi); (try clear ho0)) | (go_at_call 13; (with_reducible refine (abacistlaw30_cut.calls kj16 _ _ l0 a2 t426 _ ?side1 ?side2 A73.out).mono ?_); (case side1 => repeat (first | exact (Kd.C_below HR0.out HB.out) | (with_reducible refine Kd.C_alloc ?_ _) | (with_reducible refine Kd.C_drewN ?_ _) | (with_reducible refine Kd.C_drew ?_))); (case side2 => exact HC0.out); rintro e w83 ⟨v427, rfl, ho0, hb⟩; have n0_ := Aside0.mk (Kd.R_elder' (by (with_reducible repeat (first | apply Kd.R_alloc | apply Kd.R_drewN | apply Kd.R_drew)); exact HO_7.out) (Kd.R_base ho0) hb); have n1_ := Aside0.mk (Kd.R_elder' (by (with_reducible repeat (first | apply Kd.R_alloc | apply Kd.R_drewN | apply Kd.R_drew)); exact HO_9.out) (Kd.R_base ho0) hb); have n2_ := Aside0.mk (Kd.R_elder' (by (with_reducible repeat (first | apply Kd.R_alloc | apply Kd.R_drewN | apply Kd.R_drew)); exact HO419.out) (Kd.R_base ho0) hb); have n3_ := Aside0.mk (Kd.R_elder' (by (with_reducible repeat (first | apply Kd.R_alloc | apply Kd.R_drewN | apply Kd.R_drew)); exact HO422.out) (Kd.R_base ho0) hb); have n4_ := Aside0.mk (Kd.R_elder' (by (with_reducible repeat (first | apply Kd.R_alloc | apply Kd.R_drewN | apply Kd.R_drew)); exact HO425.out) (Kd.R_base ho0) hb); have n5_ := Aside0.mk (Kd.R_lower (Kd.R_new' (Kd.R_new' (Kd.R_new' (Kd.R_new' (Kd.R_new' ho0 (Kd.R_lt (by (with_reducible repeat (first | apply Kd.R_alloc | apply Kd.R_drewN | apply Kd.R_drew)); exact HO_7.out))) (Kd.R_lt (by (with_reducible repeat (first | apply Kd.R_alloc | apply Kd.R_drewN | apply Kd.R_drew)); exact HO_9.out))) (Kd.R_lt (by (with_reducible repeat (first | apply Kd.R_alloc | apply Kd.R_drewN | apply Kd.R_drew)); exact HO419.out))) (Kd.R_lt (by (with_reducible repeat (first | apply Kd.R_alloc | apply Kd.R_drewN | apply Kd.R_drew)); exact HO422.out))) (Kd.R_lt (by (with_reducible repeat (first | apply Kd.R_alloc | apply Kd.R_drewN | apply Kd.R_drew)); exact HO425.out))) (below_size (by repeat (first | (with_reducible first | exact HB.out | apply below_alloc | apply pw_below_drewN | apply below_drew1) | exact HB.out)))); have n6_ := Aside0.mk (below_step (by repeat (first | (with_reducible first | exact HB.out | apply below_alloc | apply pw_below_drewN | apply below_drew1) | exact HB.out)) hb); clear HO_7; clear HO_9; clear HO419; clear HO422; clear HO425; clear HB; have HO_7 := n0_; have HO_9 := n1_; have HO419 := n2_; have HO422 := n3_; have HO425 := n4_; have HO428 := n5_; have HB := n6_; clear n0_ n1_ n2_ n3_ n4_ n5_ n6_; (try clear hb); (try clear hb2); (try clear hk); (try clear hi); (try clear ho0); obtain ⟨Ao84, co84, eo84⟩ := Kd.R_slice HO428.out; subst eo84) | (go_at_call 23; (with_reducible refine (abacistref07_Derive.calls kj16 _ _ t426 t429 _ ?side1 ?side2 A74.out).mono ?_); (case side1 => repeat (first | exact (Kd.R_reads' HO428.out).2.2 | (with_reducible refine Kd.C_alloc ?_ _) | (with_reducible refine Kd.C_drewN ?_ _) | (with_reducible refine Kd.C_drew ?_))); (case side2 => exact (Kd.R_reads' HO428.out).2.1); rintro e w85 ⟨v430, rfl, ho0, hb⟩; have n0_ := Aside0.mk (Kd.R_elder' (by (with_reducible repeat (first | apply Kd.R_alloc | apply Kd.R_drewN | apply Kd.R_drew)); exact HO_7.out) (Kd.R_base ho0) hb); have n1_ := Aside0.mk (Kd.R_elder' (by (with_reducible repeat (first | apply Kd.R_alloc | apply Kd.R_drewN | apply Kd.R_drew)); exact HO_9.out) (Kd.R_base ho0) hb); have n2_ := Aside0.mk (Kd.R_elder' (by (with_reducible repeat (first | apply Kd.R_alloc | apply Kd.R_drewN | apply Kd.R_drew)); exact HO419.out) (Kd.R_base ho0) hb); have n3_ := Aside0.mk (Kd.R_elder' (by (with_reducible repeat (first | apply Kd.R_alloc | apply Kd.R_drewN | apply Kd.R_drew)); exact HO422.out) (Kd.R_base ho0) hb); have n4_ := Aside0.mk (Kd.R_elder' (by (with_reducible repeat (first | apply Kd.R_alloc | apply Kd.R_drewN | apply Kd.R_drew)); exact HO425.out) (Kd.R_base ho0) hb); have n5_ := Aside0.mk (Kd.R_elder' (by (with_reducible repeat (first | apply Kd.R_alloc | apply Kd.R_drewN | apply Kd.R_drew)); exact HO428.out) (Kd.R_base ho0) hb); have n6_ := Aside0.mk (Kd.R_lower (Kd.R_new' (Kd.R_new' (Kd.R_new' (Kd.R_new' (Kd.R_new' (Kd.R_new' ho0 (Kd.R_lt (by (with_reducible repeat (first | apply Kd.R_alloc | apply Kd.R_drewN | apply Kd.R_drew)); exact HO_7.out))) (Kd.R_lt (by (with_reducible repeat (first | apply Kd.R_alloc | apply Kd.R_drewN | apply Kd.R_drew)); exact HO_9.out))) (Kd.R_lt (by (with_reducible repeat (first | apply Kd.R_alloc | apply Kd.R_drewN | apply Kd.R_drew)); exact HO419.out))) (Kd.R_lt (by (with_reducible repeat (first | apply Kd.R_alloc | apply Kd.R_drewN | apply Kd.R_drew)); exact HO422.out))) (Kd.R_lt (by (with_reducible repeat (first | apply Kd.R_alloc | apply Kd.R_drewN | apply Kd.R_drew)); exact HO425.out))) (Kd.R_lt (by (with_reducible repeat (first | apply Kd.R_alloc | apply Kd.R_drewN | apply Kd.R_drew)); exact HO428.out))) (below_size (by repeat (first | (with_reducible first | exact HB.out | apply below_alloc | apply pw_below_drewN | apply below_drew1) | exact HB.out)))); have n7_ := Aside0.mk (below_step (by repeat (first | (with_reducible first | exact HB.out | apply below_alloc | apply pw_below_drewN | apply below_drew1) | exact HB.out)) hb); clear HO_7; clear HO_9; clear HO419; clear HO422; clear HO425; clear HO428; clear HB; have HO_7 := n0_; have HO_9 := n1_; have HO419 := n2_; have HO422 := n3_; have HO425 := n4_; have HO428 := n5_; have HO431 := n6_; have HB := n7_; clear n0_ n1_ n2_ n3_ n4_ n5_ n6_ n7_; (try clear hb); (try clear hb2); (try clear hk); (try clear hi); (try clear ho0); obtain ⟨Ao86, co86, eo86⟩ := Kd.R_slice HO431.out; subst eo86) | (go_at_call 13; (with_reducible refine (abacistlaw30_cut.calls kj16 _ _ t429 ji41 t432 _ ?side1 ?side2 A75.out).mono ?_); (case side1 => repeat (first | exact (Kd.R_reads' HO431.out).2.2 | (with_reducible refine Kd.C_alloc ?_ _) | (with_reducible refine Kd.C_drewN ?_ _) | (with_reducible refine Kd.C_drew ?_))); (case side2 => exact (Kd.R_reads' HO431.out).2.1); rintro e w87 ⟨v433, rfl, ho0, hb⟩; have n0_ := Aside0.mk (Kd.R_elder' (by (with_reducible repeat (first | apply Kd.R_alloc | apply Kd.R_drewN | apply Kd.R_drew)); exact HO_7.out) (Kd.R_base ho0) hb); have n1_ := Aside0.mk (Kd.R_elder' (by (with_reducible repeat (first | apply Kd.R_alloc | apply Kd.R_drewN | apply Kd.R_drew)); exact HO_9.out) (Kd.R_base ho0) hb); have n2_ := Aside0.mk (Kd.R_elder' (by (with_reducible repeat (first | apply Kd.R_alloc | apply Kd.R_drewN | apply Kd.R_drew)); exact HO419.out) (Kd.R_base ho0) hb); have n3_ := Aside0.mk (Kd.R_elder' (by (with_reducible repeat (first | apply Kd.R_alloc | apply Kd.R_drewN | apply Kd.R_drew)); exact HO422.out) (Kd.R_base ho0) hb); have n4_ := Aside0.mk (Kd.R_elder' (by (with_reducible repeat (first | apply Kd.R_alloc | apply Kd.R_drewN | apply Kd.R_drew)); exact HO425.out) (Kd.R_base ho0) hb); have n5_ := Aside0.mk (Kd.R_elder' (by (with_reducible repeat (first | apply Kd.R_alloc | apply Kd.R_drewN | apply Kd.R_drew)); exact HO428.out) (Kd.R_base ho0) hb); have n6_ := Aside0.mk (Kd.R_elder' (by (with_reducible repeat (first | apply Kd.R_alloc | apply Kd.R_drewN | apply Kd.R_drew)); exact HO431.out) (Kd.R_base ho0) hb); have n7_ := Aside0.mk (Kd.R_lower (Kd.R_new' (Kd.R_new' (Kd.R_new' (Kd.R_new' (Kd.R_new' (Kd.R_new' (Kd.R_new' ho0 (Kd.R_lt (by (with_reducible repeat (first | apply Kd.R_alloc | apply Kd.R_drewN | apply Kd.R_drew)); exact HO_7.out))) (Kd.R_lt (by (with_reducible repeat (first | apply Kd.R_alloc | apply Kd.R_drewN | apply Kd.R_drew)); exact HO_9.out))) (Kd.R_lt (by (with_reducible repeat (first | apply Kd.R_alloc | apply Kd.R_drewN | apply Kd.R_drew)); exact HO419.out))) (Kd.R_lt (by (with_reducible repeat (first | apply Kd.R_alloc | apply Kd.R_drewN | apply Kd.R_drew)); exact HO422.out))) (Kd.R_lt (by (with_reducible repeat (first | apply Kd.R_alloc | apply Kd.R_drewN | apply Kd.R_drew)); exact HO425.out))) (Kd.R_lt (by (with_reducible repeat (first | apply Kd.R_alloc | apply Kd.R_drewN | apply Kd.R_drew)); exact HO428.out))) (Kd.R_lt (by (with_reducible repeat (first | apply Kd.R_alloc | apply Kd.R_drewN | apply Kd.R_drew)); exact HO431.out))) (below_size (by repeat (first | (with_reducible first | exact HB.out | apply below_alloc | apply pw_below_drewN | apply below_drew1) | exact HB.out)))); have n8_ := Aside0.mk (below_step (by repeat (first | (with_reducible first | exact HB.out | apply below_alloc | apply pw_below_drewN | apply below_drew1) | exact HB.out)) hb); clear HO_7; clear HO_9; clear HO419; clear HO422; clear HO425; clear HO428; clear HO431; clear HB; have HO_7 := n0_; have HO_9 := n1_; have HO419 := n2_; have HO422 := n3_; have HO425 := n4_; have HO428 := n5_; have HO431 := n6_; have HO434 := n7_; have HB := n8_; clear n0_ n1_ n2_ n3_ n4_ n5_ n6_ n7_ n8_; (try clear hb); (try clear hb2); (try clear hk); (try clear hi); (try clear ho0); obtain ⟨Ao88, co88, eo88⟩ := Kd.R_slice HO425.out; subst eo88; obtain ⟨Ao89, co89, eo89⟩ := Kd.R_slice HO434.out; subst eo89) | (go_at_call 12; (with_reducible refine (abacistref04_Same.calls kj16 _ _ t423 _ _ t432 t435 _ ?side1 ?side2 ?side3 ?side4 A76.out).mono ?_); (case side1 => repeat (first | exact (Kd.R_reads' HO425.out).2.2 | (with_reducible refine Kd.C_alloc ?_ _) | (with_reducible refine Kd.C_drewN ?_ _) | (with_reducible refine Kd.C_drew ?_))); (case side2 => exact (Kd.R_reads' HO425.out).2.1); (case side3 => repeat (first | exact (Kd.R_reads' HO434.out).2.2 | (with_reducible refine Kd.C_alloc ?_ _) | (with_reducible refine Kd.C_drewN ?_ _) | (with_reducible refine Kd.C_drew ?_))); (case side4 => exact (Kd.R_reads' HO434.out).2.1); rintro e w' ⟨rfl, ⟨nd, rfl⟩⟩))
                                          go_meet
                                          case rel => exact ⟨_, (!t435), (by first | rfl | (simp; done) | (simp [*]; done)), H', ⟨by have := HJ5.out; have := HJ16.out; first | omega | exact Nat.le_refl _⟩, ⟨by (with_reducible repeat (first | apply Kd.R_alloc | apply Kd.R_drewN | apply Kd.R_drew)); exact Kd.R_mono HO_7.out (fun _ hk => hk.1.1.1.1.1.1)⟩, ⟨by (with_reducible repeat (first | apply Kd.R_alloc | apply Kd.R_drewN | apply Kd.R_drew)); exact Kd.R_mono HO_9.out (fun _ hk => hk.1.1.1.1.1.1)⟩, ⟨by repeat (first | (with_reducible first | exact HB.out | apply below_alloc | apply pw_below_drewN | apply below_drew1) | exact HB.out)⟩⟩
                                  · rw [if_neg c45] at H
                                    have c45b0 : ((t386.length : Int) == a2) = false := beq_eq_false_iff_ne.mpr c45
                                    have c45b1 : ((t386.length : Int) != a2) = true := bne_iff_ne.mpr c45
                                    (first | rw [c45b0] | (simp only [i64_w, i32_w]; rw [c45b0]) | skip)
                                    have H' := Aside0.mk H
                                    clear H
                                    obtain ⟨Ao90, co90, eo90⟩ := Kd.R_slice HO_7.out
                                    subst eo90
                                    go_wp2
                                    go_meet
                                    case rel => exact ⟨_, (true), (by first | rfl | (simp; done) | (simp [*]; done)), H', ⟨by have := HJ5.out; have := HJ16.out; first | omega | exact Nat.le_refl _⟩, ⟨by (with_reducible repeat (first | apply Kd.R_alloc | apply Kd.R_drewN | apply Kd.R_drew)); exact HO_7.out⟩, ⟨by (with_reducible repeat (first | apply Kd.R_alloc | apply Kd.R_drewN | apply Kd.R_drew)); exact HO_9.out⟩, ⟨by repeat (first | (with_reducible first | exact HB.out | apply below_alloc | apply pw_below_drewN | apply below_drew1) | exact HB.out)⟩⟩
                                case rest =>
                                  clear HC44
                                  try clear c1
                                  try clear c2
                                  try clear p2
                                  try clear c3
                                  try clear p3
                                  try clear q3
                                  try clear hx3
                                  try clear qi3
                                  try clear c4
                                  try clear c5
                                  try clear c6
                                  try clear p6
                                  try clear c7
                                  try clear c8
                                  try clear c9
                                  try clear c10
                                  try clear c11
                                  try clear c13
                                  try clear c13b0
                                  try clear c14
                                  try clear c14b0
                                  try clear c14b1
                                  try clear c21
                                  try clear c21b0
                                  try clear c21b1
                                  try clear c21b2
                                  try clear c22
                                  try clear c22b0
                                  try clear c22b1
                                  try clear c24
                                  try clear c24b0
                                  try clear c24b1
                                  try clear c24b2
                                  try clear c25
                                  try clear c25b0
                                  try clear c25b1
                                  try clear c26
                                  try clear c26b0
                                  try clear c26b1
                                  try clear c28
                                  try clear c28b0
                                  try clear c28b1
                                  try clear c29
                                  try clear c29b0
                                  try clear c29b1
                                  try clear c29b2
                                  try clear c31
                                  try clear c31b0
                                  try clear c31b1
                                  try clear c31b2
                                  try clear c33
                                  try clear c33b0
                                  try clear c33b1
                                  try clear c35
                                  try clear c35b0
                                  try clear c35b1
                                  try clear p39
                                  try clear q39
                                  try clear hx39
                                  try clear qi39
                                  try clear c40
                                  try clear c43
                                  try clear c43b0
                                  try clear c43b1
                                  try clear c45
                                  try clear c45b0
                                  try clear c45b1
                                  try clear c46
                                  try clear c46b0
                                  try clear c47
                                  try clear c47b0
                                  try clear c47b1
                                  try clear c48
                                  try clear c48b0
                                  try clear c48b1
                                  try clear p64
                                  try clear hx397_0
                                  try clear p2
                                  try clear p397
                                  try clear q397
                                  obtain ⟨kq, x121_43, rfl, HA, HJ43, HO_7, HO_9, HB⟩ := hcut
                                  cases kq with
                                  | zero => exact absurd HA.out (by simp [abacistlaw30_SeriesLogs.j2])
                                  | succ kj43 =>
                                    have H := HA.out
                                    clear HA
                                    simp only [abacistlaw30_SeriesLogs.j2] at H
                                    by_cases c91 : x121_43 = true
                                    · subst c91
                                      have H1 : (some false) = some r := by rw [if_pos rfl] at H; exact H
                                      clear H
                                      have H := H1
                                      clear H1
                                      obtain rfl := Option.some.inj H
                                      exact absurd hr_.out (by decide)
                                    · as_aux_lemma =>
                                        replace c91 := Bool.eq_false_iff.mpr c91
                                        subst c91
                                        have H1 : ((series_Exp.f kj43 t386 a2).bind fun bt436 => (if bt436.2 = 0 then ((abacistlaw30_cut.f kj43 l0 a2).bind fun t440 => ((abacistref04_Same.f kj43 bt436.1 t440).bind fun t443 => (if t443 = true then (abacistlaw30_SeriesLogs.j3 kj43 l1 a2 t390 t391 ji41) else (some false)))) else (some false))) = some r := by rw [if_neg (show ¬ (false = true) by decide)] at H; exact H
                                        clear H
                                        have H := H1
                                        clear H1
                                        replace H := Option.bind_eq_some_iff.mp H
                                        obtain ⟨⟨t436, t437⟩, A920, H⟩ := H
                                        replace H : (if t437 = 0 then ((abacistlaw30_cut.f kj43 l0 a2).bind fun t440 => ((abacistref04_Same.f kj43 t436 t440).bind fun t443 => (if t443 = true then (abacistlaw30_SeriesLogs.j3 kj43 l1 a2 t390 t391 ji41) else (some false)))) else (some false)) = some r := H
                                        have A92 := Aside0.mk A920
                                        clear A920
                                        by_cases c93 : t437 = 0
                                        · as_aux_lemma =>
                                            rw [if_pos c93] at H
                                            have c93b0 : (t437 == 0) = true := beq_iff_eq.mpr c93
                                            have c93b1 : (t437 != 0) = false := bne_eq_false_iff_eq.mpr c93
                                            clear c93
                                            replace H := Option.bind_eq_some_iff.mp H
                                            obtain ⟨t440, A940, H⟩ := H
                                            replace H : ((abacistref04_Same.f kj43 t436 t440).bind fun t443 => (if t443 = true then (abacistlaw30_SeriesLogs.j3 kj43 l1 a2 t390 t391 ji41) else (some false))) = some r := H
                                            have A94 := Aside0.mk A940
                                            clear A940
                                            replace H := Option.bind_eq_some_iff.mp H
                                            obtain ⟨t443, A950, H⟩ := H
                                            replace H : (if t443 = true then (abacistlaw30_SeriesLogs.j3 kj43 l1 a2 t390 t391 ji41) else (some false)) = some r := H
                                            have A95 := Aside0.mk A950
                                            clear A950
                                            by_cases c96 : t443 = true
                                            · subst c96
                                              have H1 : (abacistlaw30_SeriesLogs.j3 kj43 l1 a2 t390 t391 ji41) = some r := by rw [if_pos rfl] at H; exact H
                                              clear H
                                              have H := H1
                                              clear H1
                                              have H' := Aside0.mk H
                                              clear H
                                              obtain ⟨Ao97, co97, eo97⟩ := Kd.R_slice HO_7.out
                                              subst eo97
                                              go_wp2_with (first | ((with_reducible refine gate_callee (f := 22) rfl ?_); refine goesL_ (some 125) rfl rfl Try.func22 (by kernel_rfl) rfl #[.slice Ao97 t386.length co97, .int .i64 a2] rfl (by (try simp only [List.map_toArray, List.map_cons, List.map_nil]); first | done | rfl | (simp only [List.length_drop, List.length_take]; rfl)) ?_; (with_reducible refine (series_Exp.calls kj43 _ _ t386 a2 t436 t437 _ ?side1 ?side2 A92.out).mono ?_); (case side1 => repeat (first | exact (Kd.R_reads' HO_7.out).2.2 | (with_reducible refine Kd.C_alloc ?_ _) | (with_reducible refine Kd.C_drewN ?_ _) | (with_reducible refine Kd.C_drew ?_))); (case side2 => exact (Kd.R_reads' HO_7.out).2.1); rintro e w98 ⟨v438, rfl, ho0, hb⟩; refine ⟨_, rfl, ?_⟩; have n0_ := Aside0.mk (Kd.R_elder' (by (with_reducible repeat (first | apply Kd.R_alloc | apply Kd.R_drewN | apply Kd.R_drew)); exact HO_7.out) (Kd.R_base ho0) hb); have n1_ := Aside0.mk (Kd.R_elder' (by (with_reducible repeat (first | apply Kd.R_alloc | apply Kd.R_drewN | apply Kd.R_drew)); exact HO_9.out) (Kd.R_base ho0) hb); have n2_ := Aside0.mk (Kd.R_lower (Kd.R_new' (Kd.R_new' ho0 (Kd.R_lt (by (with_reducible repeat (first | apply Kd.R_alloc | apply Kd.R_drewN | apply Kd.R_drew)); exact HO_7.out))) (Kd.R_lt (by (with_reducible repeat (first | apply Kd.R_alloc | apply Kd.R_drewN | apply Kd.R_drew)); exact HO_9.out))) (below_size (by repeat (first | (with_reducible first | exact HB.out | apply below_alloc | apply pw_below_drewN | apply below_drew1) | exact HB.out)))); have n3_ := Aside0.mk (below_step (by repeat (first | (with_reducible first | exact HB.out | apply below_alloc | apply pw_below_drewN | apply below_drew1) | exact HB.out)) hb); clear HO_7; clear HO_9; clear HB; have HO_7 := n0_; have HO_9 := n1_; have HO439 := n2_; have HB := n3_; clear n0_ n1_ n2_ n3_; (try clear hb); (try clear hb2); (try clear hk); (try clear hi); (try clear ho0)) | (go_at_call 22; (with_reducible refine (series_Exp.calls kj43 _ _ t386 a2 t436 t437 _ ?side1 ?side2 A92.out).mono ?_); (case side1 => repeat (first | exact (Kd.R_reads' HO_7.out).2.2 | (with_reducible refine Kd.C_alloc ?_ _) | (with_reducible refine Kd.C_drewN ?_ _) | (with_reducible refine Kd.C_drew ?_))); (case side2 => exact (Kd.R_reads' HO_7.out).2.1); rintro e w98 ⟨v438, rfl, ho0, hb⟩; have n0_ := Aside0.mk (Kd.R_elder' (by (with_reducible repeat (first | apply Kd.R_alloc | apply Kd.R_drewN | apply Kd.R_drew)); exact HO_7.out) (Kd.R_base ho0) hb); have n1_ := Aside0.mk (Kd.R_elder' (by (with_reducible repeat (first | apply Kd.R_alloc | apply Kd.R_drewN | apply Kd.R_drew)); exact HO_9.out) (Kd.R_base ho0) hb); have n2_ := Aside0.mk (Kd.R_lower (Kd.R_new' (Kd.R_new' ho0 (Kd.R_lt (by (with_reducible repeat (first | apply Kd.R_alloc | apply Kd.R_drewN | apply Kd.R_drew)); exact HO_7.out))) (Kd.R_lt (by (with_reducible repeat (first | apply Kd.R_alloc | apply Kd.R_drewN | apply Kd.R_drew)); exact HO_9.out))) (below_size (by repeat (first | (with_reducible first | exact HB.out | apply below_alloc | apply pw_below_drewN | apply below_drew1) | exact HB.out)))); have n3_ := Aside0.mk (below_step (by repeat (first | (with_reducible first | exact HB.out | apply below_alloc | apply pw_below_drewN | apply below_drew1) | exact HB.out)) hb); clear HO_7; clear HO_9; clear HB; have HO_7 := n0_; have HO_9 := n1_; have HO439 := n2_; have HB := n3_; clear n0_ n1_ n2_ n3_; (try clear hb); (try clear hb2); (try clear hk); (try clear hi); (try clear ho0)) | (go_at_call 13; (with_reducible refine (abacistlaw30_cut.calls kj43 _ _ l0 a2 t440 _ ?side1 ?side2 A94.out).mono ?_); (case side1 => repeat (first | exact (Kd.C_below HR0.out HB.out) | (with_reducible refine Kd.C_alloc ?_ _) | (with_reducible refine Kd.C_drewN ?_ _) | (with_reducible refine Kd.C_drew ?_))); (case side2 => exact HC0.out); rintro e w99 ⟨v441, rfl, ho0, hb⟩; have n0_ := Aside0.mk (Kd.R_elder' (by (with_reducible repeat (first | apply Kd.R_alloc | apply Kd.R_drewN | apply Kd.R_drew)); exact HO_7.out) (Kd.R_base ho0) hb); have n1_ := Aside0.mk (Kd.R_elder' (by (with_reducible repeat (first | apply Kd.R_alloc | apply Kd.R_drewN | apply Kd.R_drew)); exact HO_9.out) (Kd.R_base ho0) hb); have n2_ := Aside0.mk (Kd.R_elder' (by (with_reducible repeat (first | apply Kd.R_alloc | apply Kd.R_drewN | apply Kd.R_drew)); exact HO439.out) (Kd.R_base ho0) hb); have n3_ := Aside0.mk (Kd.R_lower (Kd.R_new' (Kd.R_new' (Kd.R_new' ho0 (Kd.R_lt (by (with_reducible repeat (first | apply Kd.R_alloc | apply Kd.R_drewN | apply Kd.R_drew)); exact HO_7.out))) (Kd.R_lt (by (with_reducible repeat (first | apply Kd.R_alloc | apply Kd.R_drewN | apply Kd.R_drew)); exact HO_9.out))) (Kd.R_lt (by (with_reducible repeat (first | apply Kd.R_alloc | apply Kd.R_drewN | apply Kd.R_drew)); exact HO439.out))) (below_size (by repeat (first | (with_reducible first | exact HB.out | apply below_alloc | apply pw_below_drewN | apply below_drew1) | exact HB.out)))); have n4_ := Aside0.mk (below_step (by repeat (first | (with_reducible first | exact HB.out | apply below_alloc | apply pw_below_drewN | apply below_drew1) | exact HB.out)) hb); clear HO_7; clear HO_9; clear HO439; clear HB; have HO_7 := n0_; have HO_9 := n1_; have HO439 := n2_; have HO442 := n3_; have HB := n4_; clear n0_ n1_ n2_ n3_ n4_; (try clear hb); (try clear hb2); (try clear hk); (try clear hi); (try clear ho0); obtain ⟨Ao100, co100, eo100⟩ := Kd.R_slice HO439.out; subst eo100; obtain ⟨Ao101, co101, eo101⟩ := Kd.R_slice HO442.out; subst eo101) | (go_at_call 12; (with_reducible refine (abacistref04_Same.calls kj43 _ _ t436 _ _ t440 true _ ?side1 ?side2 ?side3 ?side4 A95.out).mono ?_); (case side1 => repeat (first | exact (Kd.R_reads' HO439.out).2.2 | (with_reducible refine Kd.C_alloc ?_ _) | (with_reducible refine Kd.C_drewN ?_ _) | (with_reducible refine Kd.C_drew ?_))); (case side2 => exact (Kd.R_reads' HO439.out).2.1); (case side3 => repeat (first | exact (Kd.R_reads' HO442.out).2.2 | (with_reducible refine Kd.C_alloc ?_ _) | (with_reducible refine Kd.C_drewN ?_ _) | (with_reducible refine Kd.C_drew ?_))); (case side4 => exact (Kd.R_reads' HO442.out).2.1); rintro e w' ⟨rfl, ⟨nd, rfl⟩⟩))
                                              go_meet
                                              case rel => exact ⟨_, H', ⟨by have := HJ5.out; have := HJ16.out; have := HJ43.out; first | omega | exact Nat.le_refl _⟩, ⟨by (with_reducible repeat (first | apply Kd.R_alloc | apply Kd.R_drewN | apply Kd.R_drew)); exact Kd.R_mono HO_9.out (fun _ hk => trivial)⟩, ⟨by repeat (first | (with_reducible first | exact HB.out | apply below_alloc | apply pw_below_drewN | apply below_drew1) | exact HB.out)⟩⟩
                                            · replace c96 := Bool.eq_false_iff.mpr c96
                                              subst c96
                                              have H1 : (some false) = some r := by rw [if_neg (show ¬ (false = true) by decide)] at H; exact H
                                              clear H
                                              have H := H1
                                              clear H1
                                              obtain rfl := Option.some.inj H
                                              exact absurd hr_.out (by decide)
                                        · rw [if_neg c93] at H
                                          have c93b0 : (t437 == 0) = false := beq_eq_false_iff_ne.mpr c93
                                          have c93b1 : (t437 != 0) = true := bne_iff_ne.mpr c93
                                          obtain rfl := Option.some.inj H
                                          exact absurd hr_.out (by decide)
                            · rw [if_neg c43] at H
                              have c43b0 : (t389 == 0) = false := beq_eq_false_iff_ne.mpr c43
                              (try (have c43d0 : (t394 == 1) = false := by rw [c43b0] at c21b0; revert c21b0; generalize (t394 == 1) = z_; cases z_ <;> decide))
                              (try (have c43d1 : (t394 = 1) = False := by first | exact eq_true (beq_iff_eq.1 c43d0) | exact eq_false (beq_eq_false_iff_ne.1 c43d0)))
                              have c43b1 : (t389 != 0) = true := bne_iff_ne.mpr c43
                              (first | rw [c43b0] | (simp only [i64_w, i32_w]; rw [c43b0]) | skip)
                              have H' := Aside0.mk H
                              clear H
                              go_wp2
                              go_meet
                              case rel => exact ⟨_, H', ⟨by have := HJ5.out; have := HJ16.out; first | omega | exact Nat.le_refl _⟩, ⟨by (with_reducible repeat (first | apply Kd.R_alloc | apply Kd.R_drewN | apply Kd.R_drew)); exact Kd.R_mono HO_9.out (fun _ hk => trivial)⟩, ⟨by repeat (first | (with_reducible first | exact HB.out | apply below_alloc | apply pw_below_drewN | apply below_drew1) | exact HB.out)⟩⟩
                          case rest =>
                            clear HC42
                            try clear c1
                            try clear c2
                            try clear p2
                            try clear c3
                            try clear p3
                            try clear q3
                            try clear hx3
                            try clear qi3
                            try clear c4
                            try clear c5
                            try clear c6
                            try clear p6
                            try clear c7
                            try clear c8
                            try clear c9
                            try clear c10
                            try clear c11
                            try clear c13
                            try clear c13b0
                            try clear c14
                            try clear c14b0
                            try clear c14b1
                            try clear c21
                            try clear c21b0
                            try clear c21b1
                            try clear c21b2
                            try clear c22
                            try clear c22b0
                            try clear c22b1
                            try clear c24
                            try clear c24b0
                            try clear c24b1
                            try clear c24b2
                            try clear c25
                            try clear c25b0
                            try clear c25b1
                            try clear c26
                            try clear c26b0
                            try clear c26b1
                            try clear c28
                            try clear c28b0
                            try clear c28b1
                            try clear c29
                            try clear c29b0
                            try clear c29b1
                            try clear c29b2
                            try clear c31
                            try clear c31b0
                            try clear c31b1
                            try clear c31b2
                            try clear c33
                            try clear c33b0
                            try clear c33b1
                            try clear c35
                            try clear c35b0
                            try clear c35b1
                            try clear p39
                            try clear q39
                            try clear hx39
                            try clear qi39
                            try clear c40
                            try clear c43
                            try clear c43b0
                            try clear c43b1
                            try clear c45
                            try clear c45b0
                            try clear c45b1
                            try clear c46
                            try clear c46b0
                            try clear c47
                            try clear c47b0
                            try clear c47b1
                            try clear c48
                            try clear c48b0
                            try clear c48b1
                            try clear p64
                            try clear c91
                            try clear c93
                            try clear c93b0
                            try clear c93b1
                            try clear c96
                            try clear hx397_0
                            try clear p2
                            try clear p3
                            try clear p39
                            try clear p397
                            try clear p6
                            try clear p64
                            try clear q3
                            try clear q39
                            try clear q397
                            obtain ⟨kq, HA, HJ41, HO_9, HB⟩ := hcut
                            cases kq with
                            | zero => exact absurd HA.out (by simp [abacistlaw30_SeriesLogs.j3])
                            | succ kj41 =>
                              have H := HA.out
                              clear HA
                              simp only [abacistlaw30_SeriesLogs.j3] at H
                              by_cases c102 : t391 = 0
                              · as_aux_lemma =>
                                  rw [if_pos c102] at H
                                  have c102b0 : (t391 == 0) = true := beq_iff_eq.mpr c102
                                  (try (have c102d0 : (t396 == 0) = true := by rw [c102b0] at c31b0; revert c31b0; generalize (t396 == 0) = z_; cases z_ <;> decide))
                                  (try (have c102d1 : (t396 = 0) = True := by first | exact eq_true (beq_iff_eq.1 c102d0) | exact eq_false (beq_eq_false_iff_ne.1 c102d0)))
                                  have c102b1 : (t391 != 0) = false := bne_eq_false_iff_eq.mpr c102
                                  clear c102
                                  have HC103 := Aside0.mk H
                                  clear H
                                  go_upto_region 19 with (fail)
                                  go_cut [169] (fun v169 wc => ∃ (kq : Nat) (x169_102 : Bool), v169 = .bool x169_102 ∧ Aside0 (abacistlaw30_SeriesLogs.j4 kq l1 a2 t390 x169_102 = some r) ∧ Aside0 (kq ≤ kj41) ∧ Aside0 (Kd.R (Kd.int .u64) 29 wc w.heap.size (fun _ => True) v392 t390) ∧ Aside0 (Below w.heap.size w wc))
                                  case first =>
                                    have H := HC103.out
                                    clear HC103
                                    by_cases c104 : (t390.length : Int) = a2
                                    · as_aux_lemma =>
                                        rw [if_pos c104] at H
                                        have c104b0 : ((t390.length : Int) == a2) = true := beq_iff_eq.mpr c104
                                        have c104b1 : ((t390.length : Int) != a2) = false := bne_eq_false_iff_eq.mpr c104
                                        clear c104
                                        (first | rw [c104b0] | (simp only [i64_w, i32_w]; rw [c104b0]) | skip)
                                        by_cases c105 : a2 > 0
                                        · as_aux_lemma =>
                                            rw [if_pos c105] at H
                                            have c105b0 : decide (0 < a2) = true := decide_eq_true c105
                                            clear c105
                                            by_cases c106 : 0 < (t390.length : Int)
                                            · as_aux_lemma =>
                                                rw [if_pos c106] at H
                                                have c106b0 : decide (0 < (t390.length : Int)) = true := decide_eq_true c106
                                                have c106b1 : decide (0 < t390.length) = true := decide_eq_true (by omega)
                                                clear c106
                                                by_cases c107 : (rd t390 0) = 1
                                                · as_aux_lemma =>
                                                    rw [if_pos c107] at H
                                                    have c107b0 : ((rd t390 0) == 1) = true := beq_iff_eq.mpr c107
                                                    have c107b1 : ((rd t390 0) != 1) = false := bne_eq_false_iff_eq.mpr c107
                                                    clear c107
                                                    replace H := Option.bind_eq_some_iff.mp H
                                                    obtain ⟨t445, A1080, H⟩ := H
                                                    replace H : ((abacistlaw30_cut.f kj41 t445 ji41).bind fun t448 => ((abacistlaw30_cut.f kj41 l1 a2).bind fun t451 => ((abacistref07_Derive.f kj41 t451).bind fun t454 => ((abacistref07_Mul.f kj41 t390 t454).bind fun t457 => ((abacistlaw30_cut.f kj41 t457 ji41).bind fun t460 => ((abacistref04_Same.f kj41 t448 t460).bind fun t463 => (abacistlaw30_SeriesLogs.j4 kj41 l1 a2 t390 (!t463)))))))) = some r := H
                                                    have A108 := Aside0.mk A1080
                                                    clear A1080
                                                    replace H := Option.bind_eq_some_iff.mp H
                                                    obtain ⟨t448, A1090, H⟩ := H
                                                    replace H : ((abacistlaw30_cut.f kj41 l1 a2).bind fun t451 => ((abacistref07_Derive.f kj41 t451).bind fun t454 => ((abacistref07_Mul.f kj41 t390 t454).bind fun t457 => ((abacistlaw30_cut.f kj41 t457 ji41).bind fun t460 => ((abacistref04_Same.f kj41 t448 t460).bind fun t463 => (abacistlaw30_SeriesLogs.j4 kj41 l1 a2 t390 (!t463))))))) = some r := H
                                                    have A109 := Aside0.mk A1090
                                                    clear A1090
                                                    replace H := Option.bind_eq_some_iff.mp H
                                                    obtain ⟨t451, A1100, H⟩ := H
                                                    replace H : ((abacistref07_Derive.f kj41 t451).bind fun t454 => ((abacistref07_Mul.f kj41 t390 t454).bind fun t457 => ((abacistlaw30_cut.f kj41 t457 ji41).bind fun t460 => ((abacistref04_Same.f kj41 t448 t460).bind fun t463 => (abacistlaw30_SeriesLogs.j4 kj41 l1 a2 t390 (!t463)))))) = some r := H
                                                    have A110 := Aside0.mk A1100
                                                    clear A1100
                                                    replace H := Option.bind_eq_some_iff.mp H
                                                    obtain ⟨t454, A1110, H⟩ := H
                                                    replace H : ((abacistref07_Mul.f kj41 t390 t454).bind fun t457 => ((abacistlaw30_cut.f kj41 t457 ji41).bind fun t460 => ((abacistref04_Same.f kj41 t448 t460).bind fun t463 => (abacistlaw30_SeriesLogs.j4 kj41 l1 a2 t390 (!t463))))) = some r := H
                                                    have A111 := Aside0.mk A1110
                                                    clear A1110
                                                    replace H := Option.bind_eq_some_iff.mp H
                                                    obtain ⟨t457, A1120, H⟩ := H
                                                    replace H : ((abacistlaw30_cut.f kj41 t457 ji41).bind fun t460 => ((abacistref04_Same.f kj41 t448 t460).bind fun t463 => (abacistlaw30_SeriesLogs.j4 kj41 l1 a2 t390 (!t463)))) = some r := H
                                                    have A112 := Aside0.mk A1120
                                                    clear A1120
                                                    replace H := Option.bind_eq_some_iff.mp H
                                                    obtain ⟨t460, A1130, H⟩ := H
                                                    replace H : ((abacistref04_Same.f kj41 t448 t460).bind fun t463 => (abacistlaw30_SeriesLogs.j4 kj41 l1 a2 t390 (!t463))) = some r := H
                                                    have A113 := Aside0.mk A1130
                                                    clear A1130
                                                    replace H := Option.bind_eq_some_iff.mp H
                                                    obtain ⟨t463, A1140, H⟩ := H
                                                    replace H : (abacistlaw30_SeriesLogs.j4 kj41 l1 a2 t390 (!t463)) = some r := H
                                                    have A114 := Aside0.mk A1140
                                                    clear A1140
                                                    have H' := Aside0.mk H
                                                    clear H
                                                    obtain ⟨Ao115, co115, eo115⟩ := Kd.R_slice HO_9.out
                                                    subst eo115
                                                    have p444 : 0 ≤ (0 : Int) := (by omega)
                                                    have q444 : 0 < (t390.length : Int) := of_decide_eq_true (by first | (with_reducible assumption) | assumption)
                                                    obtain ⟨ad444, e444, hx444_0⟩ := Kd.at_int (Kd.R_reads' HO_9.out).2.2 0 p444 q444
                                                    cases e444
                                                    have qi444 : (0 < t390.length) = True := eq_true (by omega)
                                                    (try rw [show ((0 : Int)).toNat = 0 from rfl] at hx444_0)
                                                    (try rw [Addr.add_zero'] at hx444_0)
                                                    replace p444 := eq_true p444
                                                    replace q444 := eq_true q444
                                                    go_wp2_with (first | (go_at_call 23; (with_reducible refine (abacistref07_Derive.calls kj41 _ _ t390 t445 _ ?side1 ?side2 A108.out).mono ?_); (case side1 => repeat (first | exact (Kd.R_reads' HO_9.out).2.2 | (with_reducible refine Kd.C_alloc ?_ _) | (with_reducible refine Kd.C_drewN ?_ _) | (with_reducible refine Kd.C_drew ?_))); (case side2 => exact (Kd.R_reads' HO_9.out).2.1); rintro e w116 ⟨v446, rfl, ho0, hb⟩; have n0_ := Aside0.mk (Kd.R_elder' (by (with_reducible repeat (first | apply Kd.R_alloc | apply Kd.R_drewN | apply Kd.R_drew)); exact HO_9.out) (Kd.R_base ho0) hb); have n1_ := Aside0.mk (Kd.R_lower (Kd.R_new' ho0 (Kd.R_lt (by (with_reducible repeat (first | apply Kd.R_alloc | apply Kd.R_drewN | apply Kd.R_drew)); exact HO_9.out))) (below_size (by repeat (first | (with_reducible first | exact HB.out | apply below_alloc | apply pw_below_drewN | apply below_drew1) | exact HB.out)))); have n2_ := Aside0.mk (below_step (by repeat (first | (with_reducible first | exact HB.out | apply below_alloc | apply pw_below_drewN | apply below_drew1) | exact HB.out)) hb); clear HO_9; clear HB; have HO_9 := n0_; have HO447 := n1_; have HB := n2_; clear n0_ n1_ n2_; (try clear hb); (try clear hb2); (try clear hk); (try clear hi); (try clear ho0); obtain ⟨Ao117, co117, eo117⟩ := Kd.R_slice HO447.out; subst eo117) | (go_at_call 13; (with_reducible refine (abacistlaw30_cut.calls kj41 _ _ t445 ji41 t448 _ ?side1 ?side2 A109.out).mono ?_); (case side1 => repeat (first | exact (Kd.R_reads' HO447.out).2.2 | (with_reducible refine Kd.C_alloc ?_ _) | (with_reducible refine Kd.C_drewN ?_ _) | (with_reducible refine Kd.C_drew ?_))); (case side2 => exact (Kd.R_reads' HO447.out).2.1); rintro e w118 ⟨v449, rfl, ho0, hb⟩; have n0_ := Aside0.mk (Kd.R_elder' (by (with_reducible repeat (first | apply Kd.R_alloc | apply Kd.R_drewN | apply Kd.R_drew)); exact HO_9.out) (Kd.R_base ho0) hb); have n1_ := Aside0.mk (Kd.R_elder' (by (with_reducible repeat (first | apply Kd.R_alloc | apply Kd.R_drewN | apply Kd.R_drew)); exact HO447.out) (Kd.R_base ho0) hb); have n2_ := Aside0.mk (Kd.R_lower (Kd.R_new' (Kd.R_new' ho0 (Kd.R_lt (by (with_reducible repeat (first | apply Kd.R_alloc | apply Kd.R_drewN | apply Kd.R_drew)); exact HO_9.out))) (Kd.R_lt (by (with_reducible repeat (first | apply Kd.R_alloc | apply Kd.R_drewN | apply Kd.R_drew)); exact HO447.out))) (below_size (by repeat (first | (with_reducible first | exact HB.out | apply below_alloc | apply pw_below_drewN | apply below_drew1) | exact HB.out)))); have n3_ := Aside0.mk (below_step (by repeat (first | (with_reducible first | exact HB.out | apply below_alloc | apply pw_below_drewN | apply below_drew1) | exact HB.out)) hb); clear HO_9; clear HO447; clear HB; have HO_9 := n0_; have HO447 := n1_; have HO450 := n2_; have HB := n3_; clear n0_ n1_ n2_ n3_; (try clear hb); (try clear hb2); (try clear hk); (try clear hi); (try clear ho0)) | (go_at_call 13; (with_reducible refine (abacistlaw30_cut.calls kj41 _ _ l1 a2 t451 _ ?side1 ?side2 A110.out).mono ?_); (case side1 => repeat (first | exact (Kd.C_below HR1.out HB.out) | (with_reducible refine Kd.C_alloc ?_ _) | (with_reducible refine Kd.C_drewN ?_ _) | (with_reducible refine Kd.C_drew ?_))); (case side2 => exact HC1.out); rintro e w119 ⟨v452, rfl, ho0, hb⟩; have n0_ := Aside0.mk (Kd.R_elder' (by (with_reducible repeat (first | apply Kd.R_alloc | apply Kd.R_drewN | apply Kd.R_drew)); exact HO_9.out) (Kd.R_base ho0) hb); have n1_ := Aside0.mk (Kd.R_elder' (by (with_reducible repeat (first | apply Kd.R_alloc | apply Kd.R_drewN | apply Kd.R_drew)); exact HO447.out) (Kd.R_base ho0) hb); have n2_ := Aside0.mk (Kd.R_elder' (by (with_reducible repeat (first | apply Kd.R_alloc | apply Kd.R_drewN | apply Kd.R_drew)); exact HO450.out) (Kd.R_base ho0) hb); have n3_ := Aside0.mk (Kd.R_lower (Kd.R_new' (Kd.R_new' (Kd.R_new' ho0 (Kd.R_lt (by (with_reducible repeat (first | apply Kd.R_alloc | apply Kd.R_drewN | apply Kd.R_drew)); exact HO_9.out))) (Kd.R_lt (by (with_reducible repeat (first | apply Kd.R_alloc | apply Kd.R_drewN | apply Kd.R_drew)); exact HO447.out))) (Kd.R_lt (by (with_reducible repeat (first | apply Kd.R_alloc | apply Kd.R_drewN | apply Kd.R_drew)); exact HO450.out))) (below_size (by repeat (first | (with_reducible first | exact HB.out | apply below_alloc | apply pw_below_drewN | apply below_drew1) | exact HB.out)))); have n4_ := Aside0.mk (below_step (by repeat (first | (with_reducible first | exact HB.out | apply below_alloc | apply pw_below_drewN | apply below_drew1) | exact HB.out)) hb); clear HO_9; clear HO447; clear HO450; clear HB; have HO_9 := n0_; have HO447 := n1_; have HO450 := n2_; have HO453 := n3_; have HB := n4_; clear n0_ n1_ n2_ n3_ n4_; (try clear hb); (try clear hb2); (try clear hk); (try clear hi); (try clear ho0); obtain ⟨Ao120, co120, eo120⟩ := Kd.R_slice HO453.out; subst eo120) | (go_at_call 23; (with_reducible refine (abacistref07_Derive.calls kj41 _ _ t451 t454 _ ?side1 ?side2 A111.out).mono ?_); (case side1 => repeat (first | exact (Kd.R_reads' HO453.out).2.2 | (with_reducible refine Kd.C_alloc ?_ _) | (with_reducible refine Kd.C_drewN ?_ _) | (with_reducible refine Kd.C_drew ?_))); (case side2 => exact (Kd.R_reads' HO453.out).2.1); rintro e w121 ⟨v455, rfl, ho0, hb⟩; have n0_ := Aside0.mk (Kd.R_elder' (by (with_reducible repeat (first | apply Kd.R_alloc | apply Kd.R_drewN | apply Kd.R_drew)); exact HO_9.out) (Kd.R_base ho0) hb); have n1_ := Aside0.mk (Kd.R_elder' (by (with_reducible repeat (first | apply Kd.R_alloc | apply Kd.R_drewN | apply Kd.R_drew)); exact HO447.out) (Kd.R_base ho0) hb); have n2_ := Aside0.mk (Kd.R_elder' (by (with_reducible repeat (first | apply Kd.R_alloc | apply Kd.R_drewN | apply Kd.R_drew)); exact HO450.out) (Kd.R_base ho0) hb); have n3_ := Aside0.mk (Kd.R_elder' (by (with_reducible repeat (first | apply Kd.R_alloc | apply Kd.R_drewN | apply Kd.R_drew)); exact HO453.out) (Kd.R_base ho0) hb); have n4_ := Aside0.mk (Kd.R_lower (Kd.R_new' (Kd.R_new' (Kd.R_new' (Kd.R_new' ho0 (Kd.R_lt (by (with_reducible repeat (first | apply Kd.R_alloc | apply Kd.R_drewN | apply Kd.R_drew)); exact HO_9.out))) (Kd.R_lt (by (with_reducible repeat (first | apply Kd.R_alloc | apply Kd.R_drewN | apply Kd.R_drew)); exact HO447.out))) (Kd.R_lt (by (with_reducible repeat (first | apply Kd.R_alloc | apply Kd.R_drewN | apply Kd.R_drew)); exact HO450.out))) (Kd.R_lt (by (with_reducible repeat (first | apply Kd.R_alloc | apply Kd.R_drewN | apply Kd.R_drew)); exact HO453.out))) (below_size (by repeat (first | (with_reducible first | exact HB.out | apply below_alloc | apply pw_below_drewN | apply below_drew1) | exact HB.out)))); have n5_ := Aside0.mk (below_step (by repeat (first | (with_reducible first | exact HB.out | apply below_alloc | apply pw_below_drewN | apply below_drew1) | exact HB.out)) hb); clear HO_9; clear HO447; clear HO450; clear HO453; clear HB; have HO_9 := n0_; have HO447 := n1_; have HO450 := n2_; have HO453 := n3_; have HO456 := n4_; have HB := n5_; clear n0_ n1_ n2_ n3_ n4_ n5_; (try clear hb); (try clear hb2); (try clear hk); (try clear hi); (try clear ho0); obtain ⟨Ao122, co122, eo122⟩ := Kd.R_slice HO456.out; subst eo122) | (go_at_call 14; (with_reducible refine (abacistref07_Mul.calls kj41 _ _ t390 _ _ t454 t457 _ ?side1 ?side2 ?side3 ?side4 A112.out).mono ?_); (case side1 => repeat (first | exact (Kd.R_reads' HO_9.out).2.2 | (with_reducible refine Kd.C_alloc ?_ _) | (with_reducible refine Kd.C_drewN ?_ _) | (with_reducible refine Kd.C_drew ?_))); (case side2 => exact (Kd.R_reads' HO_9.out).2.1); (case side3 => repeat (first | exact (Kd.R_reads' HO456.out).2.2 | (with_reducible refine Kd.C_alloc ?_ _) | (with_reducible refine Kd.C_drewN ?_ _) | (with_reducible refine Kd.C_drew ?_))); (case side4 => exact (Kd.R_reads' HO456.out).2.1); rintro e w123 ⟨v458, rfl, ho0, hb⟩; have n0_ := Aside0.mk (Kd.R_elder' (by (with_reducible repeat (first | apply Kd.R_alloc | apply Kd.R_drewN | apply Kd.R_drew)); exact HO_9.out) (Kd.R_base ho0) hb); have n1_ := Aside0.mk (Kd.R_elder' (by (with_reducible repeat (first | apply Kd.R_alloc | apply Kd.R_drewN | apply Kd.R_drew)); exact HO447.out) (Kd.R_base ho0) hb); have n2_ := Aside0.mk (Kd.R_elder' (by (with_reducible repeat (first | apply Kd.R_alloc | apply Kd.R_drewN | apply Kd.R_drew)); exact HO450.out) (Kd.R_base ho0) hb); have n3_ := Aside0.mk (Kd.R_elder' (by (with_reducible repeat (first | apply Kd.R_alloc | apply Kd.R_drewN | apply Kd.R_drew)); exact HO453.out) (Kd.R_base ho0) hb); have n4_ := Aside0.mk (Kd.R_elder' (by (with_reducible repeat (first | apply Kd.R_alloc | apply Kd.R_drewN | apply Kd.R_drew)); exact HO456.out) (Kd.R_base ho0) hb); have n5_ := Aside0.mk (Kd.R_lower (Kd.R_new' (Kd.R_new' (Kd.R_new' (Kd.R_new' (Kd.R_new' ho0 (Kd.R_lt (by (with_reducible repeat (first | apply Kd.R_alloc | apply Kd.R_drewN | apply Kd.R_drew)); exact HO_9.out))) (Kd.R_lt (by (with_reducible repeat (first | apply Kd.R_alloc | apply Kd.R_drewN | apply Kd.R_drew)); exact HO447.out))) (Kd.R_lt (by (with_reducible repeat (first | apply Kd.R_alloc | apply Kd.R_drewN | apply Kd.R_drew)); exact HO450.out))) (Kd.R_lt (by (with_reducible repeat (first | apply Kd.R_alloc | apply Kd.R_drewN | apply Kd.R_drew)); exact HO453.out))) (Kd.R_lt (by (with_reducible repeat (first | apply Kd.R_alloc | apply Kd.R_drewN | apply Kd.R_drew)); exact HO456.out))) (below_size (by repeat (first | (with_reducible first | exact HB.out | apply below_alloc | apply pw_below_drewN | apply below_drew1) | exact HB.out)))); have n6_ := Aside0.mk (below_step (by repeat (first | (with_reducible first | exact HB.out | apply below_alloc | apply pw_below_drewN | apply below_drew1) | exact HB.out)) hb); clear HO_9; clear HO447; clear HO450; clear HO453; clear HO456; clear HB; have HO_9 := n0_; have HO447 := n1_; have HO450 := n2_; have HO453 := n3_; have HO456 := n4_; have HO459 := n5_; have HB := n6_; clear n0_ n1_ n2_ n3_ n4_ n5_ n6_; (try clear hb); (try clear hb2); (try clear hk); (try clear hi); (try clear ho0); obtain ⟨Ao124, co124, eo124⟩ := Kd.R_slice HO459.out; subst eo124) | (go_at_call 13; (with_reducible refine (abacistlaw30_cut.calls kj41 _ _ t457 ji41 t460 _ ?side1 ?side2 A113.out).mono ?_); (case side1 => repeat (first | exact (Kd.R_reads' HO459.out).2.2 | (with_reducible refine Kd.C_alloc ?_ _) | (with_reducible refine Kd.C_drewN ?_ _) | (with_reducible refine Kd.C_drew ?_))); (case side2 => exact (Kd.R_reads' HO459.out).2.1); rintro e w125 ⟨v461, rfl, ho0, hb⟩; have n0_ := Aside0.mk (Kd.R_elder' (by (with_reducible repeat (first | apply Kd.R_alloc | apply Kd.R_drewN | apply Kd.R_drew)); exact HO_9.out) (Kd.R_base ho0) hb); have n1_ := Aside0.mk (Kd.R_elder' (by (with_reducible repeat (first | apply Kd.R_alloc | apply Kd.R_drewN | apply Kd.R_drew)); exact HO447.out) (Kd.R_base ho0) hb); have n2_ := Aside0.mk (Kd.R_elder' (by (with_reducible repeat (first | apply Kd.R_alloc | apply Kd.R_drewN | apply Kd.R_drew)); exact HO450.out) (Kd.R_base ho0) hb); have n3_ := Aside0.mk (Kd.R_elder' (by (with_reducible repeat (first | apply Kd.R_alloc | apply Kd.R_drewN | apply Kd.R_drew)); exact HO453.out) (Kd.R_base ho0) hb); have n4_ := Aside0.mk (Kd.R_elder' (by (with_reducible repeat (first | apply Kd.R_alloc | apply Kd.R_drewN | apply Kd.R_drew)); exact HO456.out) (Kd.R_base ho0) hb); have n5_ := Aside0.mk (Kd.R_elder' (by (with_reducible repeat (first | apply Kd.R_alloc | apply Kd.R_drewN | apply Kd.R_drew)); exact HO459.out) (Kd.R_base ho0) hb); have n6_ := Aside0.mk (Kd.R_lower (Kd.R_new' (Kd.R_new' (Kd.R_new' (Kd.R_new' (Kd.R_new' (Kd.R_new' ho0 (Kd.R_lt (by (with_reducible repeat (first | apply Kd.R_alloc | apply Kd.R_drewN | apply Kd.R_drew)); exact HO_9.out))) (Kd.R_lt (by (with_reducible repeat (first | apply Kd.R_alloc | apply Kd.R_drewN | apply Kd.R_drew)); exact HO447.out))) (Kd.R_lt (by (with_reducible repeat (first | apply Kd.R_alloc | apply Kd.R_drewN | apply Kd.R_drew)); exact HO450.out))) (Kd.R_lt (by (with_reducible repeat (first | apply Kd.R_alloc | apply Kd.R_drewN | apply Kd.R_drew)); exact HO453.out))) (Kd.R_lt (by (with_reducible repeat (first | apply Kd.R_alloc | apply Kd.R_drewN | apply Kd.R_drew)); exact HO456.out))) (Kd.R_lt (by (with_reducible repeat (first | apply Kd.R_alloc | apply Kd.R_drewN | apply Kd.R_drew)); exact HO459.out))) (below_size (by repeat (first | (with_reducible first | exact HB.out | apply below_alloc | apply pw_below_drewN | apply below_drew1) | exact HB.out)))); have n7_ := Aside0.mk (below_step (by repeat (first | (with_reducible first | exact HB.out | apply below_alloc | apply pw_below_drewN | apply below_drew1) | exact HB.out)) hb); clear HO_9; clear HO447; clear HO450; clear HO453; clear HO456; clear HO459; clear HB; have HO_9 := n0_; have HO447 := n1_; have HO450 := n2_; have HO453 := n3_; have HO456 := n4_; have HO459 := n5_; have HO462 := n6_; have HB := n7_; clear n0_ n1_ n2_ n3_ n4_ n5_ n6_ n7_; (try clear hb); (try clear hb2); (try clear hk); (try clear hi); (try clear ho0); obtain ⟨Ao126, co126, eo126⟩ := Kd.R_slice HO450.out; subst eo126; obtain ⟨Ao127, co127, eo127⟩ := Kd.R_slice HO462.out; subst eo127) | (go_at_call 12; (with_reducible refine (abacistref04_Same.calls kj41 _ _ t448 _ _ t460 t463 _ ?side1 ?side2 ?side3 ?side4 A114.out).mono ?_); (case side1 => repeat (first | exact (Kd.R_reads' HO450.out).2.2 | (with_reducible refine Kd.C_alloc ?_ _) | (with_reducible refine Kd.C_drewN ?_ _) | (with_reducible refine Kd.C_drew ?_))); (case side2 => exact (Kd.R_reads' HO450.out).2.1); (case side3 => repeat (first | exact (Kd.R_reads' HO462.out).2.2 | (with_reducible refine Kd.C_alloc ?_ _) | (with_reducible refine Kd.C_drewN ?_ _) | (with_reducible refine Kd.C_drew ?_))); (case side4 => exact (Kd.R_reads' HO462.out).2.1); rintro e w' ⟨rfl, ⟨nd, rfl⟩⟩))
                                                    go_meet
                                                    case rel => exact ⟨_, (!t463), (by first | rfl | (simp; done) | (simp [*]; done)), H', ⟨by have := HJ5.out; have := HJ16.out; have := HJ41.out; first | omega | exact Nat.le_refl _⟩, ⟨by (with_reducible repeat (first | apply Kd.R_alloc | apply Kd.R_drewN | apply Kd.R_drew)); exact Kd.R_mono HO_9.out (fun _ hk => trivial)⟩, ⟨by repeat (first | (with_reducible first | exact HB.out | apply below_alloc | apply pw_below_drewN | apply below_drew1) | exact HB.out)⟩⟩
                                                · rw [if_neg c107] at H
                                                  have c107b0 : ((rd t390 0) == 1) = false := beq_eq_false_iff_ne.mpr c107
                                                  have c107b1 : ((rd t390 0) != 1) = true := bne_iff_ne.mpr c107
                                                  have H' := Aside0.mk H
                                                  clear H
                                                  obtain ⟨Ao128, co128, eo128⟩ := Kd.R_slice HO_9.out
                                                  subst eo128
                                                  have p444 : 0 ≤ (0 : Int) := (by omega)
                                                  have q444 : 0 < (t390.length : Int) := of_decide_eq_true (by first | (with_reducible assumption) | assumption)
                                                  obtain ⟨ad444, e444, hx444_0⟩ := Kd.at_int (Kd.R_reads' HO_9.out).2.2 0 p444 q444
                                                  cases e444
                                                  have qi444 : (0 < t390.length) = True := eq_true (by omega)
                                                  (try rw [show ((0 : Int)).toNat = 0 from rfl] at hx444_0)
                                                  (try rw [Addr.add_zero'] at hx444_0)
                                                  replace p444 := eq_true p444
                                                  replace q444 := eq_true q444
                                                  go_wp2
                                                  go_meet
                                                  case rel => exact ⟨_, (true), (by first | rfl | (simp; done) | (simp [*]; done)), H', ⟨by have := HJ5.out; have := HJ16.out; have := HJ41.out; first | omega | exact Nat.le_refl _⟩, ⟨by (with_reducible repeat (first | apply Kd.R_alloc | apply Kd.R_drewN | apply Kd.R_drew)); exact HO_9.out⟩, ⟨by repeat (first | (with_reducible first | exact HB.out | apply below_alloc | apply pw_below_drewN | apply below_drew1) | exact HB.out)⟩⟩
                                            · rw [if_neg c106] at H
                                              exact absurd H (by simp)
                                        · as_aux_lemma =>
                                            rw [if_neg c105] at H
                                            have c105b0 : decide (0 < a2) = false := decide_eq_false c105
                                            clear c105
                                            replace H := Option.bind_eq_some_iff.mp H
                                            obtain ⟨t464, A1290, H⟩ := H
                                            replace H : ((abacistlaw30_cut.f kj41 t464 ji41).bind fun t467 => ((abacistlaw30_cut.f kj41 l1 a2).bind fun t470 => ((abacistref07_Derive.f kj41 t470).bind fun t473 => ((abacistref07_Mul.f kj41 t390 t473).bind fun t476 => ((abacistlaw30_cut.f kj41 t476 ji41).bind fun t479 => ((abacistref04_Same.f kj41 t467 t479).bind fun t482 => (abacistlaw30_SeriesLogs.j4 kj41 l1 a2 t390 (!t482)))))))) = some r := H
                                            have A129 := Aside0.mk A1290
                                            clear A1290
                                            replace H := Option.bind_eq_some_iff.mp H
                                            obtain ⟨t467, A1300, H⟩ := H
                                            replace H : ((abacistlaw30_cut.f kj41 l1 a2).bind fun t470 => ((abacistref07_Derive.f kj41 t470).bind fun t473 => ((abacistref07_Mul.f kj41 t390 t473).bind fun t476 => ((abacistlaw30_cut.f kj41 t476 ji41).bind fun t479 => ((abacistref04_Same.f kj41 t467 t479).bind fun t482 => (abacistlaw30_SeriesLogs.j4 kj41 l1 a2 t390 (!t482))))))) = some r := H
                                            have A130 := Aside0.mk A1300
                                            clear A1300
                                            replace H := Option.bind_eq_some_iff.mp H
                                            obtain ⟨t470, A1310, H⟩ := H
                                            replace H : ((abacistref07_Derive.f kj41 t470).bind fun t473 => ((abacistref07_Mul.f kj41 t390 t473).bind fun t476 => ((abacistlaw30_cut.f kj41 t476 ji41).bind fun t479 => ((abacistref04_Same.f kj41 t467 t479).bind fun t482 => (abacistlaw30_SeriesLogs.j4 kj41 l1 a2 t390 (!t482)))))) = some r := H
                                            have A131 := Aside0.mk A1310
                                            clear A1310
                                            replace H := Option.bind_eq_some_iff.mp H
                                            obtain ⟨t473, A1320, H⟩ := H
                                            replace H : ((abacistref07_Mul.f kj41 t390 t473).bind fun t476 => ((abacistlaw30_cut.f kj41 t476 ji41).bind fun t479 => ((abacistref04_Same.f kj41 t467 t479).bind fun t482 => (abacistlaw30_SeriesLogs.j4 kj41 l1 a2 t390 (!t482))))) = some r := H
                                            have A132 := Aside0.mk A1320
                                            clear A1320
                                            replace H := Option.bind_eq_some_iff.mp H
                                            obtain ⟨t476, A1330, H⟩ := H
                                            replace H : ((abacistlaw30_cut.f kj41 t476 ji41).bind fun t479 => ((abacistref04_Same.f kj41 t467 t479).bind fun t482 => (abacistlaw30_SeriesLogs.j4 kj41 l1 a2 t390 (!t482)))) = some r := H
                                            have A133 := Aside0.mk A1330
                                            clear A1330
                                            replace H := Option.bind_eq_some_iff.mp H
                                            obtain ⟨t479, A1340, H⟩ := H
                                            replace H : ((abacistref04_Same.f kj41 t467 t479).bind fun t482 => (abacistlaw30_SeriesLogs.j4 kj41 l1 a2 t390 (!t482))) = some r := H
                                            have A134 := Aside0.mk A1340
                                            clear A1340
                                            replace H := Option.bind_eq_some_iff.mp H
                                            obtain ⟨t482, A1350, H⟩ := H
                                            replace H : (abacistlaw30_SeriesLogs.j4 kj41 l1 a2 t390 (!t482)) = some r := H
                                            have A135 := Aside0.mk A1350
                                            clear A1350
                                            have H' := Aside0.mk H
                                            clear H
                                            obtain ⟨Ao136, co136, eo136⟩ := Kd.R_slice HO_9.out
                                            subst eo136
                                            go_wp2_with (first | (go_at_call 23; (with_reducible refine (abacistref07_Derive.calls kj41 _ _ t390 t464 _ ?side1 ?side2 A129.out).mono ?_); (case side1 => repeat (first | exact (Kd.R_reads' HO_9.out).2.2 | (with_reducible refine Kd.C_alloc ?_ _) | (with_reducible refine Kd.C_drewN ?_ _) | (with_reducible refine Kd.C_drew ?_))); (case side2 => exact (Kd.R_reads' HO_9.out).2.1); rintro e w137 ⟨v465, rfl, ho0, hb⟩; have n0_ := Aside0.mk (Kd.R_elder' (by (with_reducible repeat (first | apply Kd.R_alloc | apply Kd.R_drewN | apply Kd.R_drew)); exact HO_9.out) (Kd.R_base ho0) hb); have n1_ := Aside0.mk (Kd.R_lower (Kd.R_new' ho0 (Kd.R_lt (by (with_reducible repeat (first | apply Kd.R_alloc | apply Kd.R_drewN | apply Kd.R_drew)); exact HO_9.out))) (below_size (by repeat (first | (with_reducible first | exact HB.out | apply below_alloc | apply pw_below_drewN | apply below_drew1) | exact HB.out)))); have n2_ := Aside0.mk (below_step (by repeat (first | (with_reducible first | exact HB.out | apply below_alloc | apply pw_below_drewN | apply below_drew1) | exact HB.out)) hb); clear HO_9; clear HB; have HO_9 := n0_; have HO466 := n1_; have HB := n2_; clear n0_ n1_ n2_; (try clear hb); (try clear hb2); (try clear hk); (try clear hi); (try clear ho0); obtain ⟨Ao138, co138, eo138⟩ := Kd.R_slice HO466.out; subst eo138) | (go_at_call 13; (with_reducible refine (abacistlaw30_cut.calls kj41 _ _ t464 ji41 t467 _ ?side1 ?side2 A130.out).mono ?_); (case side1 => repeat (first | exact (Kd.R_reads' HO466.out).2.2 | (with_reducible refine Kd.C_alloc ?_ _) | (with_reducible refine Kd.C_drewN ?_ _) | (with_reducible refine Kd.C_drew ?_))); (case side2 => exact (Kd.R_reads' HO466.out).2.1); rintro e w139 ⟨v468, rfl, ho0, hb⟩; have n0_ := Aside0.mk (Kd.R_elder' (by (with_reducible repeat (first | apply Kd.R_alloc | apply Kd.R_drewN | apply Kd.R_drew)); exact HO_9.out) (Kd.R_base ho0) hb); have n1_ := Aside0.mk (Kd.R_elder' (by (with_reducible repeat (first | apply Kd.R_alloc | apply Kd.R_drewN | apply Kd.R_drew)); exact HO466.out) (Kd.R_base ho0) hb); have n2_ := Aside0.mk (Kd.R_lower (Kd.R_new' (Kd.R_new' ho0 (Kd.R_lt (by (with_reducible repeat (first | apply Kd.R_alloc | apply Kd.R_drewN | apply Kd.R_drew)); exact HO_9.out))) (Kd.R_lt (by (with_reducible repeat (first | apply Kd.R_alloc | apply Kd.R_drewN | apply Kd.R_drew)); exact HO466.out))) (below_size (by repeat (first | (with_reducible first | exact HB.out | apply below_alloc | apply pw_below_drewN | apply below_drew1) | exact HB.out)))); have n3_ := Aside0.mk (below_step (by repeat (first | (with_reducible first | exact HB.out | apply below_alloc | apply pw_below_drewN | apply below_drew1) | exact HB.out)) hb); clear HO_9; clear HO466; clear HB; have HO_9 := n0_; have HO466 := n1_; have HO469 := n2_; have HB := n3_; clear n0_ n1_ n2_ n3_; (try clear hb); (try clear hb2); (try clear hk); (try clear hi); (try clear ho0)) | (go_at_call 13; (with_reducible refine (abacistlaw30_cut.calls kj41 _ _ l1 a2 t470 _ ?side1 ?side2 A131.out).mono ?_); (case side1 => repeat (first | exact (Kd.C_below HR1.out HB.out) | (with_reducible refine Kd.C_alloc ?_ _) | (with_reducible refine Kd.C_drewN ?_ _) | (with_reducible refine Kd.C_drew ?_))); (case side2 => exact HC1.out); rintro e w140 ⟨v471, rfl, ho0, hb⟩; have n0_ := Aside0.mk (Kd.R_elder' (by (with_reducible repeat (first | apply Kd.R_alloc | apply Kd.R_drewN | apply Kd.R_drew)); exact HO_9.out) (Kd.R_base ho0) hb); have n1_ := Aside0.mk (Kd.R_elder' (by (with_reducible repeat (first | apply Kd.R_alloc | apply Kd.R_drewN | apply Kd.R_drew)); exact HO466.out) (Kd.R_base ho0) hb); have n2_ := Aside0.mk (Kd.R_elder' (by (with_reducible repeat (first | apply Kd.R_alloc | apply Kd.R_drewN | apply Kd.R_drew)); exact HO469.out) (Kd.R_base ho0) hb); have n3_ := Aside0.mk (Kd.R_lower (Kd.R_new' (Kd.R_new' (Kd.R_new' ho0 (Kd.R_lt (by (with_reducible repeat (first | apply Kd.R_alloc | apply Kd.R_drewN | apply Kd.R_drew)); exact HO_9.out))) (Kd.R_lt (by (with_reducible repeat (first | apply Kd.R_alloc | apply Kd.R_drewN | apply Kd.R_drew)); exact HO466.out))) (Kd.R_lt (by (with_reducible repeat (first | apply Kd.R_alloc | apply Kd.R_drewN | apply Kd.R_drew)); exact HO469.out))) (below_size (by repeat (first | (with_reducible first | exact HB.out | apply below_alloc | apply pw_below_drewN | apply below_drew1) | exact HB.out)))); have n4_ := Aside0.mk (below_step (by repeat (first | (with_reducible first | exact HB.out | apply below_alloc | apply pw_below_drewN | apply below_drew1) | exact HB.out)) hb); clear HO_9; clear HO466; clear HO469; clear HB; have HO_9 := n0_; have HO466 := n1_; have HO469 := n2_; have HO472 := n3_; have HB := n4_; clear n0_ n1_ n2_ n3_ n4_; (try clear hb); (try clear hb2); (try clear hk); (try clear hi); (try clear ho0); obtain ⟨Ao141, co141, eo141⟩ := Kd.R_slice HO472.out; subst eo141) | (go_at_call 23; (with_reducible refine (abacistref07_Derive.calls kj41 _ _ t470 t473 _ ?side1 ?side2 A132.out).mono ?_); (case side1 => repeat (first | exact (Kd.R_reads' HO472.out).2.2 | (with_reducible refine Kd.C_alloc ?_ _) | (with_reducible refine Kd.C_drewN ?_ _) | (with_reducible refine Kd.C_drew ?_))); (case side2 => exact (Kd.R_reads' HO472.out).2.1); rintro e w142 ⟨v474, rfl, ho0, hb⟩; have n0_ := Aside0.mk (Kd.R_elder' (by (with_reducible repeat (first | apply Kd.R_alloc | apply Kd.R_drewN | apply Kd.R_drew)); exact HO_9.out) (Kd.R_base ho0) hb); have n1_ := Aside0.mk (Kd.R_elder' (by (with_reducible repeat (first | apply Kd.R_alloc | apply Kd.R_drewN | apply Kd.R_drew)); exact HO466.out) (Kd.R_base ho0) hb); have n2_ := Aside0.mk (Kd.R_elder' (by (with_reducible repeat (first | apply Kd.R_alloc | apply Kd.R_drewN | apply Kd.R_drew)); exact HO469.out) (Kd.R_base ho0) hb); have n3_ := Aside0.mk (Kd.R_elder' (by (with_reducible repeat (first | apply Kd.R_alloc | apply Kd.R_drewN | apply Kd.R_drew)); exact HO472.out) (Kd.R_base ho0) hb); have n4_ := Aside0.mk (Kd.R_lower (Kd.R_new' (Kd.R_new' (Kd.R_new' (Kd.R_new' ho0 (Kd.R_lt (by (with_reducible repeat (first | apply Kd.R_alloc | apply Kd.R_drewN | apply Kd.R_drew)); exact HO_9.out))) (Kd.R_lt (by (with_reducible repeat (first | apply Kd.R_alloc | apply Kd.R_drewN | apply Kd.R_drew)); exact HO466.out))) (Kd.R_lt (by (with_reducible repeat (first | apply Kd.R_alloc | apply Kd.R_drewN | apply Kd.R_drew)); exact HO469.out))) (Kd.R_lt (by (with_reducible repeat (first | apply Kd.R_alloc | apply Kd.R_drewN | apply Kd.R_drew)); exact HO472.out))) (below_size (by repeat (first | (with_reducible first | exact HB.out | apply below_alloc | apply pw_below_drewN | apply below_drew1) | exact HB.out)))); have n5_ := Aside0.mk (below_step (by repeat (first | (with_reducible first | exact HB.out | apply below_alloc | apply pw_below_drewN | apply below_drew1) | exact HB.out)) hb); clear HO_9; clear HO466; clear HO469; clear HO472; clear HB; have HO_9 := n0_; have HO466 := n1_; have HO469 := n2_; have HO472 := n3_; have HO475 := n4_; have HB := n5_; clear n0_ n1_ n2_ n3_ n4_ n5_; (try clear hb); (try clear hb2); (try clear hk); (try clear hi); (try clear ho0); obtain ⟨Ao143, co143, eo143⟩ := Kd.R_slice HO475.out; subst eo143) | (go_at_call 14; (with_reducible refine (abacistref07_Mul.calls kj41 _ _ t390 _ _ t473 t476 _ ?side1 ?side2 ?side3 ?side4 A133.out).mono ?_); (case side1 => repeat (first | exact (Kd.R_reads' HO_9.out).2.2 | (with_reducible refine Kd.C_alloc ?_ _) | (with_reducible refine Kd.C_drewN ?_ _) | (with_reducible refine Kd.C_drew ?_))); (case side2 => exact (Kd.R_reads' HO_9.out).2.1); (case side3 => repeat (first | exact (Kd.R_reads' HO475.out).2.2 | (with_reducible refine Kd.C_alloc ?_ _) | (with_reducible refine Kd.C_drewN ?_ _) | (with_reducible refine Kd.C_drew ?_))); (case side4 => exact (Kd.R_reads' HO475.out).2.1); rintro e w144 ⟨v477, rfl, ho0, hb⟩; have n0_ := Aside0.mk (Kd.R_elder' (by (with_reducible repeat (first | apply Kd.R_alloc | apply Kd.R_drewN | apply Kd.R_drew)); exact HO_9.out) (Kd.R_base ho0) hb); have n1_ := Aside0.mk (Kd.R_elder' (by (with_reducible repeat (first | apply Kd.R_alloc | apply Kd.R_drewN | apply Kd.R_drew)); exact HO466.out) (Kd.R_base ho0) hb); have n2_ := Aside0.mk (Kd.R_elder' (by (with_reducible repeat (first | apply Kd.R_alloc | apply Kd.R_drewN | apply Kd.R_drew)); exact HO469.out) (Kd.R_base ho0) hb); have n3_ := Aside0.mk (Kd.R_elder' (by (with_reducible repeat (first | apply Kd.R_alloc | apply Kd.R_drewN | apply Kd.R_drew)); exact HO472.out) (Kd.R_base ho0) hb); have n4_ := Aside0.mk (Kd.R_elder' (by (with_reducible repeat (first | apply Kd.R_alloc | apply Kd.R_drewN | apply Kd.R_drew)); exact HO475.out) (Kd.R_base ho0) hb); have n5_ := Aside0.mk (Kd.R_lower (Kd.R_new' (Kd.R_new' (Kd.R_new' (Kd.R_new' (Kd.R_new' ho0 (Kd.R_lt (by (with_reducible repeat (first | apply Kd.R_alloc | apply Kd.R_drewN | apply Kd.R_drew)); exact HO_9.out))) (Kd.R_lt (by (with_reducible repeat (first | apply Kd.R_alloc | apply Kd.R_drewN | apply Kd.R_drew)); exact HO466.out))) (Kd.R_lt (by (with_reducible repeat (first | apply Kd.R_alloc | apply Kd.R_drewN | apply Kd.R_drew)); exact HO469.out))) (Kd.R_lt (by (with_reducible repeat (first | apply Kd.R_alloc | apply Kd.R_drewN | apply Kd.R_drew)); exact HO472.out))) (Kd.R_lt (by (with_reducible repeat (first | apply Kd.R_alloc | apply Kd.R_drewN | apply Kd.R_drew)); exact HO475.out))) (below_size (by repeat (first | (with_reducible first | exact HB.out | apply below_alloc | apply pw_below_drewN | apply below_drew1) | exact HB.out)))); have n6_ := Aside0.mk (below_step (by repeat (first | (with_reducible first | exact HB.out | apply below_alloc | apply pw_below_drewN | apply below_drew1) | exact HB.out)) hb); clear HO_9; clear HO466; clear HO469; clear HO472; clear HO475; clear HB; have HO_9 := n0_; have HO466 := n1_; have HO469 := n2_; have HO472 := n3_; have HO475 := n4_; have HO478 := n5_; have HB := n6_; clear n0_ n1_ n2_ n3_ n4_ n5_ n6_; (try clear hb); (try clear hb2); (try clear hk); (try clear hi); (try clear ho0); obtain ⟨Ao145, co145, eo145⟩ := Kd.R_slice HO478.out; subst eo145) | (go_at_call 13; (with_reducible refine (abacistlaw30_cut.calls kj41 _ _ t476 ji41 t479 _ ?side1 ?side2 A134.out).mono ?_); (case side1 => repeat (first | exact (Kd.R_reads' HO478.out).2.2 | (with_reducible refine Kd.C_alloc ?_ _) | (with_reducible refine Kd.C_drewN ?_ _) | (with_reducible refine Kd.C_drew ?_))); (case side2 => exact (Kd.R_reads' HO478.out).2.1); rintro e w146 ⟨v480, rfl, ho0, hb⟩; have n0_ := Aside0.mk (Kd.R_elder' (by (with_reducible repeat (first | apply Kd.R_alloc | apply Kd.R_drewN | apply Kd.R_drew)); exact HO_9.out) (Kd.R_base ho0) hb); have n1_ := Aside0.mk (Kd.R_elder' (by (with_reducible repeat (first | apply Kd.R_alloc | apply Kd.R_drewN | apply Kd.R_drew)); exact HO466.out) (Kd.R_base ho0) hb); have n2_ := Aside0.mk (Kd.R_elder' (by (with_reducible repeat (first | apply Kd.R_alloc | apply Kd.R_drewN | apply Kd.R_drew)); exact HO469.out) (Kd.R_base ho0) hb); have n3_ := Aside0.mk (Kd.R_elder' (by (with_reducible repeat (first | apply Kd.R_alloc | apply Kd.R_drewN | apply Kd.R_drew)); exact HO472.out) (Kd.R_base ho0) hb); have n4_ := Aside0.mk (Kd.R_elder' (by (with_reducible repeat (first | apply Kd.R_alloc | apply Kd.R_drewN | apply Kd.R_drew)); exact HO475.out) (Kd.R_base ho0) hb); have n5_ := Aside0.mk (Kd.R_elder' (by (with_reducible repeat (first | apply Kd.R_alloc | apply Kd.R_drewN | apply Kd.R_drew)); exact HO478.out) (Kd.R_base ho0) hb); have n6_ := Aside0.mk (Kd.R_lower (Kd.R_new' (Kd.R_new' (Kd.R_new' (Kd.R_new' (Kd.R_new' (Kd.R_new' ho0 (Kd.R_lt (by (with_reducible repeat (first | apply Kd.R_alloc | apply Kd.R_drewN | apply Kd.R_drew)); exact HO_9.out))) (Kd.R_lt (by (with_reducible repeat (first | apply Kd.R_alloc | apply Kd.R_drewN | apply Kd.R_drew)); exact HO466.out))) (Kd.R_lt (by (with_reducible repeat (first | apply Kd.R_alloc | apply Kd.R_drewN | apply Kd.R_drew)); exact HO469.out))) (Kd.R_lt (by (with_reducible repeat (first | apply Kd.R_alloc | apply Kd.R_drewN | apply Kd.R_drew)); exact HO472.out))) (Kd.R_lt (by (with_reducible repeat (first | apply Kd.R_alloc | apply Kd.R_drewN | apply Kd.R_drew)); exact HO475.out))) (Kd.R_lt (by (with_reducible repeat (first | apply Kd.R_alloc | apply Kd.R_drewN | apply Kd.R_drew)); exact HO478.out))) (below_size (by repeat (first | (with_reducible first | exact HB.out | apply below_alloc | apply pw_below_drewN | apply below_drew1) | exact HB.out)))); have n7_ := Aside0.mk (below_step (by repeat (first | (with_reducible first | exact HB.out | apply below_alloc | apply pw_below_drewN | apply below_drew1) | exact HB.out)) hb); clear HO_9; clear HO466; clear HO469; clear HO472; clear HO475; clear HO478; clear HB; have HO_9 := n0_; have HO466 := n1_; have HO469 := n2_; have HO472 := n3_; have HO475 := n4_; have HO478 := n5_; have HO481 := n6_; have HB := n7_; clear n0_ n1_ n2_ n3_ n4_ n5_ n6_ n7_; (try clear hb); (try clear hb2); (try clear hk); (try clear hi); (try clear ho0); obtain ⟨Ao147, co147, eo147⟩ := Kd.R_slice HO469.out; subst eo147; obtain ⟨Ao148, co148, eo148⟩ := Kd.R_slice HO481.out; subst eo148) | (go_at_call 12; (with_reducible refine (abacistref04_Same.calls kj41 _ _ t467 _ _ t479 t482 _ ?side1 ?side2 ?side3 ?side4 A135.out).mono ?_); (case side1 => repeat (first | exact (Kd.R_reads' HO469.out).2.2 | (with_reducible refine Kd.C_alloc ?_ _) | (with_reducible refine Kd.C_drewN ?_ _) | (with_reducible refine Kd.C_drew ?_))); (case side2 => exact (Kd.R_reads' HO469.out).2.1); (case side3 => repeat (first | exact (Kd.R_reads' HO481.out).2.2 | (with_reducible refine Kd.C_alloc ?_ _) | (with_reducible refine Kd.C_drewN ?_ _) | (with_reducible refine Kd.C_drew ?_))); (case side4 => exact (Kd.R_reads' HO481.out).2.1); rintro e w' ⟨rfl, ⟨nd, rfl⟩⟩))
                                            go_meet
                                            case rel => exact ⟨_, (!t482), (by first | rfl | (simp; done) | (simp [*]; done)), H', ⟨by have := HJ5.out; have := HJ16.out; have := HJ41.out; first | omega | exact Nat.le_refl _⟩, ⟨by (with_reducible repeat (first | apply Kd.R_alloc | apply Kd.R_drewN | apply Kd.R_drew)); exact Kd.R_mono HO_9.out (fun _ hk => trivial)⟩, ⟨by repeat (first | (with_reducible first | exact HB.out | apply below_alloc | apply pw_below_drewN | apply below_drew1) | exact HB.out)⟩⟩
                                    · rw [if_neg c104] at H
                                      have c104b0 : ((t390.length : Int) == a2) = false := beq_eq_false_iff_ne.mpr c104
                                      have c104b1 : ((t390.length : Int) != a2) = true := bne_iff_ne.mpr c104
                                      (first | rw [c104b0] | (simp only [i64_w, i32_w]; rw [c104b0]) | skip)
                                      have H' := Aside0.mk H
                                      clear H
                                      obtain ⟨Ao149, co149, eo149⟩ := Kd.R_slice HO_9.out
                                      subst eo149
                                      go_wp2
                                      go_meet
                                      case rel => exact ⟨_, (true), (by first | rfl | (simp; done) | (simp [*]; done)), H', ⟨by have := HJ5.out; have := HJ16.out; have := HJ41.out; first | omega | exact Nat.le_refl _⟩, ⟨by (with_reducible repeat (first | apply Kd.R_alloc | apply Kd.R_drewN | apply Kd.R_drew)); exact HO_9.out⟩, ⟨by repeat (first | (with_reducible first | exact HB.out | apply below_alloc | apply pw_below_drewN | apply below_drew1) | exact HB.out)⟩⟩
                                  case rest =>
                                    clear HC103
                                    try clear c1
                                    try clear c2
                                    try clear p2
                                    try clear c3
                                    try clear p3
                                    try clear q3
                                    try clear hx3
                                    try clear qi3
                                    try clear c4
                                    try clear p4
                                    try clear q4
                                    try clear hx4
                                    try clear qi4
                                    try clear c5
                                    try clear c6
                                    try clear p6
                                    try clear c7
                                    try clear c8
                                    try clear c9
                                    try clear c10
                                    try clear c11
                                    try clear c13
                                    try clear c13b0
                                    try clear c14
                                    try clear c14b0
                                    try clear c14b1
                                    try clear c21
                                    try clear c21b0
                                    try clear c21b1
                                    try clear c21b2
                                    try clear c22
                                    try clear c22b0
                                    try clear c22b1
                                    try clear c24
                                    try clear c24b0
                                    try clear c24b1
                                    try clear c24b2
                                    try clear c25
                                    try clear c25b0
                                    try clear c25b1
                                    try clear c26
                                    try clear c26b0
                                    try clear c26b1
                                    try clear c28
                                    try clear c28b0
                                    try clear c28b1
                                    try clear c29
                                    try clear c29b0
                                    try clear c29b1
                                    try clear c29b2
                                    try clear c31
                                    try clear c31b0
                                    try clear c31b1
                                    try clear c31b2
                                    try clear c33
                                    try clear c33b0
                                    try clear c33b1
                                    try clear c35
                                    try clear c35b0
                                    try clear c35b1
                                    try clear p39
                                    try clear q39
                                    try clear hx39
                                    try clear qi39
                                    try clear c40
                                    try clear c43
                                    try clear c43b0
                                    try clear c43b1
                                    try clear p44
                                    try clear q44
                                    try clear hx44
                                    try clear qi44
                                    try clear c45
                                    try clear c45b0
                                    try clear c45b1
                                    try clear c46
                                    try clear c46b0
                                    try clear c47
                                    try clear c47b0
                                    try clear c47b1
                                    try clear c48
                                    try clear c48b0
                                    try clear c48b1
                                    try clear p64
                                    try clear c91
                                    try clear c93
                                    try clear c93b0
                                    try clear c93b1
                                    try clear c96
                                    try clear c102
                                    try clear c102b0
                                    try clear c102b1
                                    try clear c104
                                    try clear c104b0
                                    try clear c104b1
                                    try clear c105
                                    try clear c105b0
                                    try clear c106
                                    try clear c106b0
                                    try clear c106b1
                                    try clear c107
                                    try clear c107b0
                                    try clear c107b1
                                    try clear hx397_0
                                    try clear hx444_0
                                    try clear p2
                                    try clear p3
                                    try clear p39
                                    try clear p397
                                    try clear p444
                                    try clear p6
                                    try clear p64
                                    try clear q3
                                    try clear q39
                                    try clear q397
                                    try clear q444
                                    obtain ⟨kq, x169_102, rfl, HA, HJ102, HO_9, HB⟩ := hcut
                                    cases kq with
                                    | zero => exact absurd HA.out (by simp [abacistlaw30_SeriesLogs.j4])
                                    | succ kj102 =>
                                      have H := HA.out
                                      clear HA
                                      simp only [abacistlaw30_SeriesLogs.j4] at H
                                      by_cases c150 : x169_102 = true
                                      · subst c150
                                        have H1 : (some false) = some r := by rw [if_pos rfl] at H; exact H
                                        clear H
                                        have H := H1
                                        clear H1
                                        obtain rfl := Option.some.inj H
                                        exact absurd hr_.out (by decide)
                                      · as_aux_lemma =>
                                          replace c150 := Bool.eq_false_iff.mpr c150
                                          subst c150
                                          have H1 : (if a2 = 0 then (some true) else ((series_Log.f kj102 t390 a2).bind fun bt483 => (if bt483.2 = 0 then ((abacistlaw30_cut.f kj102 l1 a2).bind fun t487 => ((abacistref04_Same.f kj102 bt483.1 t487).bind fun t490 => (some t490))) else (some false)))) = some r := by rw [if_neg (show ¬ (false = true) by decide)] at H; exact H
                                          clear H
                                          have H := H1
                                          clear H1
                                          by_cases c151 : a2 = 0
                                          · rw [if_pos c151] at H
                                            have c151b0 : (a2 == 0) = true := beq_iff_eq.mpr c151
                                            have c151b1 : (a2 != 0) = false := bne_eq_false_iff_eq.mpr c151
                                            clear c151
                                            obtain rfl := Option.some.inj H
                                            go_wp2
                                            go_ret
                                            exact ⟨by first | rfl | (simp [errW_none, errW_some] <;> rfl) | (simp only [← hji41]; first | rfl | (simp [errW_none, errW_some] <;> rfl)) | (simp [*, errW_none, errW_some] <;> rfl), by repeat (first | (with_reducible first | exact HB.out | apply below_alloc | apply pw_below_drewN | apply below_drew1) | exact HB.out)⟩
                                          · as_aux_lemma =>
                                              rw [if_neg c151] at H
                                              have c151b0 : (a2 == 0) = false := beq_eq_false_iff_ne.mpr c151
                                              have c151b1 : (a2 != 0) = true := bne_iff_ne.mpr c151
                                              replace H := Option.bind_eq_some_iff.mp H
                                              obtain ⟨⟨t483, t486⟩, A1520, H⟩ := H
                                              replace H : (if t486 = 0 then ((abacistlaw30_cut.f kj102 l1 a2).bind fun t487 => ((abacistref04_Same.f kj102 t483 t487).bind fun t490 => (some t490))) else (some false)) = some r := H
                                              have A152 := Aside0.mk A1520
                                              clear A1520
                                              by_cases c153 : t486 = 0
                                              · rw [if_pos c153] at H
                                                have c153b0 : (t486 == 0) = true := beq_iff_eq.mpr c153
                                                have c153b1 : (t486 != 0) = false := bne_eq_false_iff_eq.mpr c153
                                                clear c153
                                                replace H := Option.bind_eq_some_iff.mp H
                                                obtain ⟨t487, A1540, H⟩ := H
                                                replace H : ((abacistref04_Same.f kj102 t483 t487).bind fun t490 => (some t490)) = some r := H
                                                have A154 := Aside0.mk A1540
                                                clear A1540
                                                replace H := Option.bind_eq_some_iff.mp H
                                                obtain ⟨t490, A1550, H⟩ := H
                                                replace H : (some t490) = some r := H
                                                have A155 := Aside0.mk A1550
                                                clear A1550
                                                obtain rfl := Option.some.inj H
                                                obtain ⟨Ao156, co156, eo156⟩ := Kd.R_slice HO_9.out
                                                subst eo156
                                                go_wp2_with (first | ((with_reducible refine gate_callee (f := 21) rfl ?_); refine goesL_ (some 175) rfl rfl Try.func21 (by kernel_rfl) rfl #[.slice Ao156 t390.length co156, .int .i64 a2] rfl (by (try simp only [List.map_toArray, List.map_cons, List.map_nil]); first | done | rfl | (simp only [List.length_drop, List.length_take]; rfl)) ?_; (with_reducible refine (series_Log.calls kj102 (fun k_ => some k_ = (.slice Ao156 t390.length co156 : Value).ownBlock) _ _ t390 a2 t483 t486 _ ?side1 A152.out).mono ?_); (case side1 => exact Kd.R_V (Kd.R_tight rfl (HO_9.out))); rintro e w157 ⟨v484, rfl, ho0, hb⟩; refine ⟨_, rfl, ?_⟩; have n0_ := Aside0.mk (Kd.R_elder' (by (with_reducible repeat (first | apply Kd.R_alloc | apply Kd.R_drewN | apply Kd.R_drew)); exact HO_9.out) (Kd.R_base ho0) hb); have n1_ := Aside0.mk (Kd.R_lower (Kd.R_new' (Kd.R_mono (ok' := fun k_ => True) ho0 (fun _ hk_ => trivial)) (Kd.R_lt (by (with_reducible repeat (first | apply Kd.R_alloc | apply Kd.R_drewN | apply Kd.R_drew)); exact HO_9.out))) (below_size (by repeat (first | (with_reducible first | exact HB.out | apply below_alloc | apply pw_below_drewN | apply below_drew1) | exact HB.out)))); have n2_ := Aside0.mk (below_step (by repeat (first | (with_reducible first | exact HB.out | apply below_alloc | apply pw_below_drewN | apply below_drew1) | exact HB.out)) hb); clear HO_9; clear HB; have HO_9 := n0_; have HO485 := n1_; have HB := n2_; clear n0_ n1_ n2_; (try clear hb); (try clear hb2); (try clear hk); (try clear hi); (try clear ho0)) | (go_at_call 21; (with_reducible refine (series_Log.calls kj102 (fun k_ => some k_ = (.slice Ao156 t390.length co156 : Value).ownBlock) _ _ t390 a2 t483 t486 _ ?side1 A152.out).mono ?_); (case side1 => exact Kd.R_V (Kd.R_tight rfl (HO_9.out))); rintro e w157 ⟨v484, rfl, ho0, hb⟩; have n0_ := Aside0.mk (Kd.R_elder' (by (with_reducible repeat (first | apply Kd.R_alloc | apply Kd.R_drewN | apply Kd.R_drew)); exact HO_9.out) (Kd.R_base ho0) hb); have n1_ := Aside0.mk (Kd.R_lower (Kd.R_new' (Kd.R_mono (ok' := fun k_ => True) ho0 (fun _ hk_ => trivial)) (Kd.R_lt (by (with_reducible repeat (first | apply Kd.R_alloc | apply Kd.R_drewN | apply Kd.R_drew)); exact HO_9.out))) (below_size (by repeat (first | (with_reducible first | exact HB.out | apply below_alloc | apply pw_below_drewN | apply below_drew1) | exact HB.out)))); have n2_ := Aside0.mk (below_step (by repeat (first | (with_reducible first | exact HB.out | apply below_alloc | apply pw_below_drewN | apply below_drew1) | exact HB.out)) hb); clear HO_9; clear HB; have HO_9 := n0_; have HO485 := n1_; have HB := n2_; clear n0_ n1_ n2_; (try clear hb); (try clear hb2); (try clear hk); (try clear hi); (try clear ho0)) | (go_at_call 13; (with_reducible refine (abacistlaw30_cut.calls kj102 _ _ l1 a2 t487 _ ?side1 ?side2 A154.out).mono ?_); (case side1 => repeat (first | exact (Kd.C_below HR1.out HB.out) | (with_reducible refine Kd.C_alloc ?_ _) | (with_reducible refine Kd.C_drewN ?_ _) | (with_reducible refine Kd.C_drew ?_))); (case side2 => exact HC1.out); rintro e w158 ⟨v488, rfl, ho0, hb⟩; have n0_ := Aside0.mk (Kd.R_elder' (by (with_reducible repeat (first | apply Kd.R_alloc | apply Kd.R_drewN | apply Kd.R_drew)); exact HO_9.out) (Kd.R_base ho0) hb); have n1_ := Aside0.mk (Kd.R_elder' (by (with_reducible repeat (first | apply Kd.R_alloc | apply Kd.R_drewN | apply Kd.R_drew)); exact HO485.out) (Kd.R_base ho0) hb); have n2_ := Aside0.mk (Kd.R_lower (Kd.R_new' (Kd.R_new' ho0 (Kd.R_lt (by (with_reducible repeat (first | apply Kd.R_alloc | apply Kd.R_drewN | apply Kd.R_drew)); exact HO_9.out))) (Kd.R_lt (by (with_reducible repeat (first | apply Kd.R_alloc | apply Kd.R_drewN | apply Kd.R_drew)); exact HO485.out))) (below_size (by repeat (first | (with_reducible first | exact HB.out | apply below_alloc | apply pw_below_drewN | apply below_drew1) | exact HB.out)))); have n3_ := Aside0.mk (below_step (by repeat (first | (with_reducible first | exact HB.out | apply below_alloc | apply pw_below_drewN | apply below_drew1) | exact HB.out)) hb); clear HO_9; clear HO485; clear HB; have HO_9 := n0_; have HO485 := n1_; have HO489 := n2_; have HB := n3_; clear n0_ n1_ n2_ n3_; (try clear hb); (try clear hb2); (try clear hk); (try clear hi); (try clear ho0); obtain ⟨Ao159, co159, eo159⟩ := Kd.R_slice HO485.out; subst eo159; obtain ⟨Ao160, co160, eo160⟩ := Kd.R_slice HO489.out; subst eo160) | (go_at_call 12; (with_reducible refine (abacistref04_Same.calls kj102 _ _ t483 _ _ t487 t490 _ ?side1 ?side2 ?side3 ?side4 A155.out).mono ?_); (case side1 => repeat (first | exact (Kd.R_reads' HO485.out).2.2 | (with_reducible refine Kd.C_alloc ?_ _) | (with_reducible refine Kd.C_drewN ?_ _) | (with_reducible refine Kd.C_drew ?_))); (case side2 => exact (Kd.R_reads' HO485.out).2.1); (case side3 => repeat (first | exact (Kd.R_reads' HO489.out).2.2 | (with_reducible refine Kd.C_alloc ?_ _) | (with_reducible refine Kd.C_drewN ?_ _) | (with_reducible refine Kd.C_drew ?_))); (case side4 => exact (Kd.R_reads' HO489.out).2.1); rintro e w' ⟨rfl, ⟨nd, rfl⟩⟩))
                                                go_ret
                                                exact ⟨by first | rfl | (simp [errW_none, errW_some] <;> rfl) | (simp only [← hji41]; first | rfl | (simp [errW_none, errW_some] <;> rfl)) | (simp [*, errW_none, errW_some] <;> rfl), by repeat (first | (with_reducible first | exact HB.out | apply below_alloc | apply pw_below_drewN | apply below_drew1) | exact HB.out)⟩
                                              · rw [if_neg c153] at H
                                                have c153b0 : (t486 == 0) = false := beq_eq_false_iff_ne.mpr c153
                                                have c153b1 : (t486 != 0) = true := bne_iff_ne.mpr c153
                                                obtain rfl := Option.some.inj H
                                                exact absurd hr_.out (by decide)
                              · rw [if_neg c102] at H
                                have c102b0 : (t391 == 0) = false := beq_eq_false_iff_ne.mpr c102
                                (try (have c102d0 : (t396 == 0) = false := by rw [c102b0] at c31b0; revert c31b0; generalize (t396 == 0) = z_; cases z_ <;> decide))
                                (try (have c102d1 : (t396 = 0) = False := by first | exact eq_true (beq_iff_eq.1 c102d0) | exact eq_false (beq_eq_false_iff_ne.1 c102d0)))
                                have c102b1 : (t391 != 0) = true := bne_iff_ne.mpr c102
                                obtain rfl := Option.some.inj H
                                go_wp2
                                go_ret
                                exact ⟨by first | rfl | (simp [errW_none, errW_some] <;> rfl) | (simp only [← hji41]; first | rfl | (simp [errW_none, errW_some] <;> rfl)) | (simp [*, errW_none, errW_some] <;> rfl), by repeat (first | (with_reducible first | exact HB.out | apply below_alloc | apply pw_below_drewN | apply below_drew1) | exact HB.out)⟩
  · replace c5 := Bool.eq_false_iff.mpr c5
    subst c5
    have H1 : (some false) = some r := by rw [if_neg (show ¬ (false = true) by decide)] at H; exact H
    clear H
    have H := H1
    clear H1
    obtain rfl := Option.some.inj H
    exact absurd hr_.out (by decide)

/-- THE ONE PURE STATEMENT of abacistlaw30_SeriesLogs: yours. -/
def abacistlaw30_SeriesLogs.Pure : Prop := ∀ (l0 : List Int) (l1 : List Int) (a2 : Int), l0.length ≤ maxLen → l0.length * 8 ≤ 140737488351232 → (∀ x ∈ l0, (Lit.int .u64 x).wf = true) → l1.length ≤ maxLen → l1.length * 8 ≤ 140737488351232 → (∀ x ∈ l1, (Lit.int .u64 x).wf = true) → (Lit.int .i64 a2).wf = true → ∃ k, abacistlaw30_SeriesLogs.f k l0 l1 a2 = some true
theorem abacistlaw30_SeriesLogs.walk (P : abacistlaw30_SeriesLogs.Pure) (a0 : Option Addr) (len0 cap0 : Nat) (z0 : List Int) (a1 : Option Addr) (len1 cap1 : Nat) (z1 : List Int) (a2 : Int) (w : World) (w0 : (a0 = none ∧ len0 = 0 ∧ cap0 = 0 ∧ z0 = []) ∨ ∃ x, a0 = some x ∧ len0 ≤ cap0 ∧ cap0 ≤ maxLen ∧ z0.length = cap0 ∧ (∀ i, i < z0.length → w.cell? (x.add i) = some (.int .u64 (z0.getD i 0))) ∧ ∀ n ∈ z0, (Lit.int .u64 n).wf = true) (y0 : len0 * 8 ≤ 140737488351232) (w1 : (a1 = none ∧ len1 = 0 ∧ cap1 = 0 ∧ z1 = []) ∨ ∃ x, a1 = some x ∧ len1 ≤ cap1 ∧ cap1 ≤ maxLen ∧ z1.length = cap1 ∧ (∀ i, i < z1.length → w.cell? (x.add i) = some (.int .u64 (z1.getD i 0))) ∧ ∀ n ∈ z1, (Lit.int .u64 n).wf = true) (y1 : len1 * 8 ≤ 140737488351232) (w2 : (Lit.int .i64 a2).wf = true) :
    Calls Try.prog 6 #[.slice a0 len0 cap0, .slice a1 len1 cap1, .int .i64 a2] w fun e w' => e = .returned (.bool true) ∧ Below w.heap.size w w' := by
  obtain ⟨l0, rfl, hr0, hm0, hw0, hc0⟩ := ReadsInt.ofRowC w0
  obtain ⟨l1, rfl, hr1, hm1, hw1, hc1⟩ := ReadsInt.ofRowC w1
  obtain ⟨k, h⟩ := P l0 l1 a2 hm0 y0 hw0 hm1 y1 hw1 w2
  refine (abacistlaw30_SeriesLogs.calls k _ _ l0 _ _ l1 a2 true ⟨rfl⟩ w (Kd.C_of_reads (d := (0 : Int)) (h1 := fun _ => rfl) hr0) hc0 (Kd.C_of_reads (d := (0 : Int)) (h1 := fun _ => rfl) hr1) hc1 h).mono ?_
  rintro e w' ⟨rfl, hd⟩
  exact ⟨rfl, hd⟩

end Go.Proofs.Ytnmjomcpkckihaa.PSeriesLogs
