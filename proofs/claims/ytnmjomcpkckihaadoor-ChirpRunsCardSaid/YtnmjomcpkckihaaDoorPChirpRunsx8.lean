-- Written for this claim by wip/gen/mk.sh, this session's own driver over the kit's print
import Derived.Test.YtnmjomcpkckihaaDoorPChirpRunsx0
import Derived.Test.YtnmjomcpkckihaaDoorPChirpRunsx1
import Derived.Test.YtnmjomcpkckihaaDoorPChirpRunsx2
import Derived.Test.YtnmjomcpkckihaaDoorPChirpRunsx7
namespace Go.Proofs.YtnmjomcpkckihaaDoor.PChirpRuns
open Go.RowKit Go.Proofs.YtnmjomcpkckihaaDoorW.PrintWords Go.Proofs.YtnmjomcpkckihaaDoorW.PrintLast Go.Proofs.YtnmjomcpkckihaaDoorW.PrintMore
attribute [local go_sem] max2_int min2_int max_two min_two max_three min_three max_four min_four   -- for this text's walks alone
set_option linter.unusedVariables false
set_option linter.unusedSimpArgs false

/-! ### chirp_mixed: function 33 -/
mutual
def chirp_mixed.l0 : Nat → List Int → Int → List Int → Int → List (List Int) → Int → Int → Option (List Int)
  | 0, _, _, _, _, _, _, _ => none
  | k + 1, x0, x1, x2, x7, x8, x30, x31 => if x31 < x30 then (if 0 ≤ x31 then (if x31 < (x8.length : Int) then ((gold_Pow.f k x1 (IntKind.u64.wrap (x7))).bind fun t259 => (if 1 ≤ (x2.length : Int) then ((chirp_mixed.f k (rd_L1 x8 x31) t259 (x2.drop 1)).bind fun t261 => (chirp_mixed.l0 k x0 x1 x2 x7 (x8.set (x31 : Int).toNat t261) x30 (wrap64 (x31 + 1)))) else (none))) else (none)) else (none)) else (if 0 ≤ (x0.length : Int) then (if ((x0.length : Int) : Int).toNat ≤ 35184372088832 then ((some (List.replicate ((x0.length : Int) : Int).toNat 0 : List Int)).bind fun y265 => (chirp_mixed.l1 k x1 x7 x8 y265 1 (y265.length : Int) 0)) else (none)) else (none))
def chirp_mixed.l1 : Nat → Int → Int → List (List Int) → List Int → Int → Int → Int → Option (List Int)
  | 0, _, _, _, _, _, _, _ => none
  | k + 1, x1, x7, x8, x10, x11, x53, x54 => if x54 < x53 then (chirp_mixed.l2 k x1 x7 x8 x10 x11 x54 0 (wrap64 (x7 - 1)) x53 x54) else (some x10)
def chirp_mixed.l2 : Nat → Int → Int → List (List Int) → List Int → Int → Int → Int → Int → Int → Int → Option (List Int)
  | 0, _, _, _, _, _, _, _, _, _, _ => none
  | k + 1, x1, x7, x8, x10, x11, x12, x13, x14, x53, x54 => if x14 ≥ 0 then ((gold_Mul.f x13 x11).bind fun t268 => (if 0 ≤ x14 then (if x14 < (x8.length : Int) then (if ((rd_L1 x8 x14).length : Int) = 0 then (none) else (if 0 ≤ (Int.tmod x12 ((rd_L1 x8 x14).length : Int)) then (if (Int.tmod x12 ((rd_L1 x8 x14).length : Int)) < ((rd_L1 x8 x14).length : Int) then ((gold_Add.f t268 (rd (rd_L1 x8 x14) (Int.tmod x12 ((rd_L1 x8 x14).length : Int)))).bind fun t272 => (chirp_mixed.l2 k x1 x7 x8 x10 x11 x12 t272 (wrap64 (x14 - 1)) x53 x54)) else (none)) else (none))) else (none)) else (none))) else (if 0 ≤ x12 then (if x12 < (x10.length : Int) then ((gold_Mul.f x11 x1).bind fun t274 => (chirp_mixed.l1 k x1 x7 x8 (x10.set (x12 : Int).toNat x13) t274 x53 (wrap64 (x54 + 1)))) else (none)) else (none))
def chirp_mixed.f : Nat → List Int → Int → List Int → Option (List Int)
  | 0, _, _, _ => none
  | k + 1, l0, a1, l2 => if (l2.length : Int) = 0 then (if 0 < (l0.length : Int) then ((gold_Of.f (rd l0 0)).bind fun t250 => (some (([t250] : List Int)))) else (none)) else (if 0 < (l2.length : Int) then ((chirp_parts.f k l0 (rd l2 0)).bind fun t255 => (chirp_mixed.l0 k l0 a1 l2 (rd l2 0) t255 (t255.length : Int) 0)) else (none))
end
theorem chirp_mixed.mono_l : ∀ k, (∀ y0 y1 y2, LeO (chirp_mixed.f k y0 y1 y2) (chirp_mixed.f (k + 1) y0 y1 y2)) ∧ (∀ y0 y1 y2 y3 y4 y5 y6, LeO (chirp_mixed.l0 k y0 y1 y2 y3 y4 y5 y6) (chirp_mixed.l0 (k + 1) y0 y1 y2 y3 y4 y5 y6)) ∧ (∀ y0 y1 y2 y3 y4 y5 y6, LeO (chirp_mixed.l1 k y0 y1 y2 y3 y4 y5 y6) (chirp_mixed.l1 (k + 1) y0 y1 y2 y3 y4 y5 y6)) ∧ (∀ y0 y1 y2 y3 y4 y5 y6 y7 y8 y9, LeO (chirp_mixed.l2 k y0 y1 y2 y3 y4 y5 y6 y7 y8 y9) (chirp_mixed.l2 (k + 1) y0 y1 y2 y3 y4 y5 y6 y7 y8 y9))
  | 0 => ⟨fun _ _ _ r h => by simp [chirp_mixed.f] at h, fun _ _ _ _ _ _ _ r h => by simp [chirp_mixed.l0] at h, fun _ _ _ _ _ _ _ r h => by simp [chirp_mixed.l1] at h, fun _ _ _ _ _ _ _ _ _ _ r h => by simp [chirp_mixed.l2] at h⟩
  | k + 1 => by
    obtain ⟨ih0, ih1, ih2, ih3⟩ := chirp_mixed.mono_l k
    refine ⟨?_, ?_, ?_, ?_⟩
    · intro y0 y1 y2
      unfold chirp_mixed.f
      repeat' first
      | (with_reducible exact ih0 _ _ _)
      | (with_reducible exact ih1 _ _ _ _ _ _ _)
      | (with_reducible exact ih2 _ _ _ _ _ _ _)
      | (with_reducible exact ih3 _ _ _ _ _ _ _ _ _ _)
      | (with_reducible exact chirp_parts.mono _ _ _)
      | (with_reducible exact gold_Pow.mono _ _ _)
      | (with_reducible exact LeO.refl _)
      | (with_reducible exact LeO.none _)
      | (with_reducible refine LeO.ite ?_ ?_)
      | (with_reducible refine LeO.bind ?_ (fun _ => ?_))
      | exact ih0 _ _ _
      | exact ih1 _ _ _ _ _ _ _
      | exact ih2 _ _ _ _ _ _ _
      | exact ih3 _ _ _ _ _ _ _ _ _ _
      | exact chirp_parts.mono _ _ _
      | exact gold_Pow.mono _ _ _
      | exact LeO.none _
      | refine LeO.ite ?_ ?_
      | refine LeO.bind ?_ (fun _ => ?_)
    · intro y0 y1 y2 y3 y4 y5 y6
      unfold chirp_mixed.l0
      repeat' first
      | (with_reducible exact ih0 _ _ _)
      | (with_reducible exact ih1 _ _ _ _ _ _ _)
      | (with_reducible exact ih2 _ _ _ _ _ _ _)
      | (with_reducible exact ih3 _ _ _ _ _ _ _ _ _ _)
      | (with_reducible exact chirp_parts.mono _ _ _)
      | (with_reducible exact gold_Pow.mono _ _ _)
      | (with_reducible exact LeO.refl _)
      | (with_reducible exact LeO.none _)
      | (with_reducible refine LeO.ite ?_ ?_)
      | (with_reducible refine LeO.bind ?_ (fun _ => ?_))
      | exact ih0 _ _ _
      | exact ih1 _ _ _ _ _ _ _
      | exact ih2 _ _ _ _ _ _ _
      | exact ih3 _ _ _ _ _ _ _ _ _ _
      | exact chirp_parts.mono _ _ _
      | exact gold_Pow.mono _ _ _
      | exact LeO.none _
      | refine LeO.ite ?_ ?_
      | refine LeO.bind ?_ (fun _ => ?_)
    · intro y0 y1 y2 y3 y4 y5 y6
      unfold chirp_mixed.l1
      repeat' first
      | (with_reducible exact ih0 _ _ _)
      | (with_reducible exact ih1 _ _ _ _ _ _ _)
      | (with_reducible exact ih2 _ _ _ _ _ _ _)
      | (with_reducible exact ih3 _ _ _ _ _ _ _ _ _ _)
      | (with_reducible exact chirp_parts.mono _ _ _)
      | (with_reducible exact gold_Pow.mono _ _ _)
      | (with_reducible exact LeO.refl _)
      | (with_reducible exact LeO.none _)
      | (with_reducible refine LeO.ite ?_ ?_)
      | (with_reducible refine LeO.bind ?_ (fun _ => ?_))
      | exact ih0 _ _ _
      | exact ih1 _ _ _ _ _ _ _
      | exact ih2 _ _ _ _ _ _ _
      | exact ih3 _ _ _ _ _ _ _ _ _ _
      | exact chirp_parts.mono _ _ _
      | exact gold_Pow.mono _ _ _
      | exact LeO.none _
      | refine LeO.ite ?_ ?_
      | refine LeO.bind ?_ (fun _ => ?_)
    · intro y0 y1 y2 y3 y4 y5 y6 y7 y8 y9
      unfold chirp_mixed.l2
      repeat' first
      | (with_reducible exact ih0 _ _ _)
      | (with_reducible exact ih1 _ _ _ _ _ _ _)
      | (with_reducible exact ih2 _ _ _ _ _ _ _)
      | (with_reducible exact ih3 _ _ _ _ _ _ _ _ _ _)
      | (with_reducible exact chirp_parts.mono _ _ _)
      | (with_reducible exact gold_Pow.mono _ _ _)
      | (with_reducible exact LeO.refl _)
      | (with_reducible exact LeO.none _)
      | (with_reducible refine LeO.ite ?_ ?_)
      | (with_reducible refine LeO.bind ?_ (fun _ => ?_))
      | exact ih0 _ _ _
      | exact ih1 _ _ _ _ _ _ _
      | exact ih2 _ _ _ _ _ _ _
      | exact ih3 _ _ _ _ _ _ _ _ _ _
      | exact chirp_parts.mono _ _ _
      | exact gold_Pow.mono _ _ _
      | exact LeO.none _
      | refine LeO.ite ?_ ?_
      | refine LeO.bind ?_ (fun _ => ?_)
theorem chirp_mixed.mono : ∀ a0 a1 a2 k, LeO (chirp_mixed.f k a0 a1 a2) (chirp_mixed.f (k + 1) a0 a1 a2) := by
  intro a0 a1 a2 k
  obtain ⟨ih0, ih1, ih2, ih3⟩ := chirp_mixed.mono_l k
  exact ih0 a0 a1 a2
def chirp_mixed.T8 : Bool × List (List Nat × List Nat) := (true, [([], []), ([], []), ([], []), ([], []), ([2, 3], [2, 3]), ([4], [4]), ([], []), ([], []), ([7], [7]), ([6, 8], [6, 8]), ([], []), ([10], [10]), ([5, 9, 11, 9], [5, 9, 11]), ([0, 1, 0, 1, 2, 3, 4, 5, 6, 7, 8, 9, 10, 11, 12], [0, 1]), ([13, 12, 12, 0, 1, 2, 3, 4, 5, 6, 7, 8, 9, 10, 11, 12], [12, 13])])
def chirp_mixed.B8 : List Nat := [0, 0, 0, 0, 12, 28, 0, 0, 128, 448, 0, 1024, 4092, 8191, 16383]
theorem chirp_mixed.tab8 : rtab .any (opsOf Tryd.f33 8) = chirp_mixed.T8 := by kernel_rfl
theorem chirp_mixed.bits8 : waitsOk chirp_mixed.T8.2 chirp_mixed.B8 = true := by kernel_rfl
def chirp_mixed.T19 : Bool × List (List Nat × List Nat) := (true, [([], []), ([], []), ([0, 1], [0, 1]), ([], []), ([], []), ([3, 4], [3, 4]), ([5], [5]), ([], []), ([], []), ([], []), ([8, 9], [8, 9]), ([10], [10]), ([11], [11]), ([7, 12], [7, 12]), ([6, 13], [6, 13]), ([14], [14]), ([2, 15, 2], [2, 15]), ([16, 16, 0, 1, 2, 3, 4, 5, 6, 7, 8, 9, 10, 11, 12, 13, 14, 15, 16], [0, 16])])
def chirp_mixed.B19 : List Nat := [0, 0, 3, 0, 0, 24, 56, 0, 0, 0, 768, 1792, 3840, 8064, 16376, 32760, 65535, 131071]
theorem chirp_mixed.tab19 : rtab .any (opsOf Tryd.f33 19) = chirp_mixed.T19 := by kernel_rfl
theorem chirp_mixed.bits19 : waitsOk chirp_mixed.T19.2 chirp_mixed.B19 = true := by kernel_rfl
set_option maxHeartbeats 80000000 in
set_option maxRecDepth 100000 in
theorem chirp_mixed.calls (k : Nat) : ∀ (A0 : Option Addr) (c0 : Nat) (l0 : List Int) (a1 : Int) (A2 : Option Addr) (c2 : Nat) (l2 : List Int) (r : List Int) (w : World) (hr0 : Kd.C (Kd.int .u64) w A0 l0.length l0) (hc0 : l0.length ≤ c0) (hr2 : Kd.C (Kd.int .i64) w A2 l2.length l2) (hc2 : l2.length ≤ c2) (h : chirp_mixed.f k l0 a1 l2 = some r),
    Calls Tryd.prog 33 #[.slice A0 l0.length c0, .int .u64 a1, .slice A2 l2.length c2] w fun e w' => ∃ v0_ : Value, e = .returned (v0_) ∧ Kd.R (Kd.int .u64) 23 w' w.heap.size (fun _ => True) v0_ r ∧ Below w.heap.size w w' := by
  induction k using Nat.strongRecOn with
  | _ k ih =>
  intro A0 c0 l0 a1 A2 c2 l2 r w hr0 hc0 hr2 hc2 h
  cases k with
  | zero => exact absurd h (by simp [chirp_mixed.f])
  | succ k =>
  simp only [chirp_mixed.f] at h
  have HR0 := Aside0.mk hr0
  have HC0 := Aside0.mk hc0
  clear hr0 hc0
  have HR2 := Aside0.mk hr2
  have HC2 := Aside0.mk hc2
  clear hr2 hc2
  have HB := Aside0.mk (Below.refl w.heap.size w)
  have H : (if (l2.length : Int) = 0 then (if 0 < (l0.length : Int) then ((gold_Of.f (rd l0 0)).bind fun t250 => (some (([t250] : List Int)))) else (none)) else (if 0 < (l2.length : Int) then ((chirp_parts.f k l0 (rd l2 0)).bind fun t255 => (chirp_mixed.l0 k l0 a1 l2 (rd l2 0) t255 (t255.length : Int) 0)) else (none))) = some r := h
  clear h
  by_cases c4 : (l2.length : Int) = 0
  · rw [if_pos c4] at H
    have c4b0 : ((l2.length : Int) == 0) = true := beq_iff_eq.mpr c4
    have c4b1 : ((l2.length : Int) != 0) = false := bne_eq_false_iff_eq.mpr c4
    clear c4
    by_cases c5 : 0 < (l0.length : Int)
    · rw [if_pos c5] at H
      have c5b0 : decide (0 < (l0.length : Int)) = true := decide_eq_true c5
      have c5b1 : decide (0 < l0.length) = true := decide_eq_true (by omega)
      clear c5
      replace H := Option.bind_eq_some_iff.mp H
      obtain ⟨t250, A60, H⟩ := H
      replace H : (some (([t250] : List Int))) = some r := H
      have A6 := Aside0.mk A60
      clear A60
      obtain ⟨y251, hy251⟩ : ∃ y_ : List Int, y_ = (([t250] : List Int)) := ⟨_, rfl⟩
      replace H : (some y251) = some r := by first | (rw [hy251]; with_reducible exact H) | (have H2_ := (Option.bind_some _ _).symm.trans H; rw [hy251]; with_reducible exact H2_) | (have H2_ := (Option.bind_some _ _).symm.trans H; with_reducible exact H2_) | with_reducible exact H | (rw [hy251]; exact H) | exact H
      have Ny251 := Aside0.mk hy251
      clear hy251
      obtain rfl := Option.some.inj H
      have p249 : 0 ≤ (0 : Int) := (by omega)
      have q249 : 0 < (l0.length : Int) := of_decide_eq_true (by first | (with_reducible assumption) | assumption)
      obtain ⟨ad249, e249, hx249_0⟩ := Kd.at_int HR0.out 0 p249 q249
      cases e249
      have qi249 : (0 < l0.length) = True := eq_true (by omega)
      (try rw [show ((0 : Int)).toNat = 0 from rfl] at hx249_0)
      (try rw [Addr.add_zero'] at hx249_0)
      replace p249 := eq_true p249
      replace q249 := eq_true q249
      go_enter Tryd.func33, Tryd.ntmps33
      go_wp2_with (first | ((with_reducible refine gate_callee (f := 27) rfl ?_); refine goesL_ (some 21) rfl rfl Tryd.func27 (by kernel_rfl) rfl #[.int .u64 (rd l0 0)] rfl (by (try simp only [List.map_toArray, List.map_cons, List.map_nil]); first | done | rfl | (simp only [List.length_drop, List.length_take]; rfl)) ?_; (with_reducible refine (gold_Of.calls (rd l0 0) t250 _ A6.out).mono ?_); rintro e w' ⟨rfl, ⟨nd, rfl⟩⟩; refine ⟨_, rfl, ?_⟩) | (go_at_call 27; (with_reducible refine (gold_Of.calls (rd l0 0) t250 _ A6.out).mono ?_); rintro e w' ⟨rfl, ⟨nd, rfl⟩⟩) | ((with_reducible refine gate_dst (N := 22) rfl ?_); refine Kd.R_lit (Kd.int .u64) _ 23 ?hg (N := 22) ?hd (xs := ([t250] : List Int)) (inner := [.int .u64 t250]) (ok := fun _ => True) (okp := fun _ => True) ?hr ?hp (fun _ hk => hk) trivial (Below.refl _ _) (Nat.le_refl _) (by simp) ?_; (case hd => rfl); (case hg => rfl); (case hr => first | (go_simp; done) | (go_simp; rfl)); (case hp => exact (Reps.one (show Kd.M (Kd.int .u64) _ _ _ t250 [.int .u64 t250] from rfl) (Reps.none _ _))); intro v252 w7 ho8 hb hg_ hnew_; clear hg_ hnew_; (first | rw [← Ny251.out] at ho8 | (simp only [Int.reduceToNat] at ho8; rw [← Ny251.out] at ho8)); have n0_ := Aside0.mk (Kd.R_lower ho8 (below_size (by repeat (first | (with_reducible first | exact HB.out | apply below_alloc | apply pw_below_drewN | apply below_drew1) | exact HB.out)))); have n1_ := Aside0.mk (below_step (by repeat (first | (with_reducible first | exact HB.out | apply below_alloc | apply pw_below_drewN | apply below_drew1) | exact HB.out)) hb); clear HB; have HO253 := n0_; have HB := n1_; clear n0_ n1_; clear hb ho8))
      go_ret
      exact ⟨_, by first | rfl | (simp [errW_none, errW_some] <;> rfl) | (simp [*, errW_none, errW_some] <;> rfl), by (with_reducible repeat (first | apply Kd.R_alloc | apply Kd.R_drewN | apply Kd.R_drew)); exact HO253.out, by repeat (first | (with_reducible first | exact HB.out | apply below_alloc | apply pw_below_drewN | apply below_drew1) | exact HB.out)⟩
    · rw [if_neg c5] at H
      exact absurd H (by simp)
  · rw [if_neg c4] at H
    have c4b0 : ((l2.length : Int) == 0) = false := beq_eq_false_iff_ne.mpr c4
    have c4b1 : ((l2.length : Int) != 0) = true := bne_iff_ne.mpr c4
    have c4b2 : ¬ (l2 = []) := fun h_ => c4 (by rw [h_]; rfl)
    by_cases c9 : 0 < (l2.length : Int)
    · rw [if_pos c9] at H
      have c9b0 : decide (0 < (l2.length : Int)) = true := decide_eq_true c9
      have c9b1 : decide (0 < l2.length) = true := decide_eq_true (by omega)
      clear c9
      replace H := Option.bind_eq_some_iff.mp H
      obtain ⟨t255, A100, H⟩ := H
      replace H : (chirp_mixed.l0 k l0 a1 l2 (rd l2 0) t255 (t255.length : Int) 0) = some r := H
      have A10 := Aside0.mk A100
      clear A100
      have H' := Aside0.mk H
      clear H
      have p254 : 0 ≤ (0 : Int) := (by omega)
      have q254 : 0 < (l2.length : Int) := of_decide_eq_true (by first | (with_reducible assumption) | assumption)
      obtain ⟨ad254, e254, hx254_0⟩ := Kd.at_int HR2.out 0 p254 q254
      cases e254
      have qi254 : (0 < l2.length) = True := eq_true (by omega)
      (try rw [show ((0 : Int)).toNat = 0 from rfl] at hx254_0)
      (try rw [Addr.add_zero'] at hx254_0)
      replace p254 := eq_true p254
      replace q254 := eq_true q254
      go_enter Tryd.func33, Tryd.ntmps33
      go_wp2_with (first | ((with_reducible refine gate_callee (f := 42) rfl ?_); refine goesL_ (some 28) rfl rfl Tryd.func42 (by kernel_rfl) rfl #[.slice A0 l0.length c0, .int .i64 (rd l2 0)] rfl (by (try simp only [List.map_toArray, List.map_cons, List.map_nil]); first | done | rfl | (simp only [List.length_drop, List.length_take]; rfl)) ?_; (with_reducible refine (chirp_parts.calls k _ _ l0 (rd l2 0) t255 _ ?side1 ?side2 A10.out).mono ?_); (case side1 => repeat (first | exact HR0.out | (with_reducible refine Kd.C_alloc ?_ _) | (with_reducible refine Kd.C_drewN ?_ _) | (with_reducible refine Kd.C_drew ?_))); (case side2 => exact HC0.out); rintro e w11 ⟨v256, rfl, ho0, hb⟩; refine ⟨_, rfl, ?_⟩; have n0_ := Aside0.mk (Kd.N_lower (Kd.N_mono (ok' := fun k_ => True) (Kd.S_N (Kd.S_bound ho0)) (fun k_ hk_ => trivial)) (below_size (by repeat (first | (with_reducible first | exact HB.out | apply below_alloc | apply pw_below_drewN | apply below_drew1) | exact HB.out)))); have n1_ := Aside0.mk (below_step (by repeat (first | (with_reducible first | exact HB.out | apply below_alloc | apply pw_below_drewN | apply below_drew1) | exact HB.out)) hb); clear HB; have HO257 := n0_; have HB := n1_; clear n0_ n1_; (try clear hb); (try clear hb2); (try clear hk); (try clear hi); (try clear ho0); obtain ⟨Ao12, co12, eo12⟩ := Kd.N_slice HO257.out; subst eo12) | (go_at_call 42; (with_reducible refine (chirp_parts.calls k _ _ l0 (rd l2 0) t255 _ ?side1 ?side2 A10.out).mono ?_); (case side1 => repeat (first | exact HR0.out | (with_reducible refine Kd.C_alloc ?_ _) | (with_reducible refine Kd.C_drewN ?_ _) | (with_reducible refine Kd.C_drew ?_))); (case side2 => exact HC0.out); rintro e w11 ⟨v256, rfl, ho0, hb⟩; have n0_ := Aside0.mk (Kd.N_lower (Kd.N_mono (ok' := fun k_ => True) (Kd.S_N (Kd.S_bound ho0)) (fun k_ hk_ => trivial)) (below_size (by repeat (first | (with_reducible first | exact HB.out | apply below_alloc | apply pw_below_drewN | apply below_drew1) | exact HB.out)))); have n1_ := Aside0.mk (below_step (by repeat (first | (with_reducible first | exact HB.out | apply below_alloc | apply pw_below_drewN | apply below_drew1) | exact HB.out)) hb); clear HB; have HO257 := n0_; have HB := n1_; clear n0_ n1_; (try clear hb); (try clear hb2); (try clear hk); (try clear hi); (try clear ho0); obtain ⟨Ao12, co12, eo12⟩ := Kd.N_slice HO257.out; subst eo12))
      go_loopg [31] k (fun kq v31 w' => ∃ (x8_1 : List (List Int)) (x31_1 : Int), v31 = .int .i64 x31_1 ∧ Aside0 (chirp_mixed.l0 kq l0 a1 l2 (rd l2 0) x8_1 (t255.length : Int) x31_1 = some r) ∧ Aside0 (kq ≤ k) ∧ Aside0 (Kd.N (Kd.slice 23 (Kd.int .u64)) 22 w' w.heap.size (fun _ => True) (.slice Ao12 t255.length co12) x8_1) ∧ Aside0 (Below w.heap.size w w'))
      case atStart => exact ⟨(t255), (0), (by first | rfl | (simp; done) | (simp [*]; done)), H', ⟨Nat.le_refl _⟩, ⟨by (with_reducible repeat (first | apply Kd.N_alloc | apply Kd.N_drewN | apply Kd.N_drew)); exact HO257.out⟩, ⟨by repeat (first | (with_reducible first | exact HB.out | apply below_alloc | apply pw_below_drewN | apply below_drew1) | exact HB.out)⟩⟩
      case round =>
        clear H'
        try clear c2
        try clear p2
        try clear q2
        try clear hx2
        try clear qi2
        try clear c3
        try clear c4
        try clear c4b0
        try clear c4b1
        try clear c4b2
        try clear c5
        try clear c5b0
        try clear c5b1
        try clear c9
        try clear c9b0
        try clear c9b1
        try clear hx249_0
        try clear hx254_0
        try clear p249
        try clear p254
        try clear q249
        try clear q254
        obtain ⟨x8_1, x31_1, rfl, HA, HK1, HO_8, HB⟩ := hrel
        have hl8_1 := (Kd.N_reads' HO_8.out).1
        rw [hl8_1] at HO_8
        (try simp only [hl8_1])
        cases gk with
        | zero => exact absurd HA.out (by simp [chirp_mixed.l0])
        | succ k1 =>
          have H := HA.out
          clear HA
          simp only [chirp_mixed.l0] at H
          by_cases c13 : x31_1 < (t255.length : Int)
          · rw [if_pos c13] at H
            have c13b0 : decide (x31_1 < (t255.length : Int)) = true := decide_eq_true c13
            (try (have c13b0_0 := c13b0; simp only [hl8_1] at c13b0_0))
            clear c13
            by_cases c14 : 0 ≤ x31_1
            · rw [if_pos c14] at H
              have c14b0 : decide (0 ≤ x31_1) = true := decide_eq_true c14
              clear c14
              by_cases c15 : x31_1 < (x8_1.length : Int)
              · rw [if_pos c15] at H
                have c15b0 : decide (x31_1 < (x8_1.length : Int)) = true := decide_eq_true c15
                (try (have c15b0_0 := c15b0; simp only [hl8_1] at c15b0_0))
                clear c15
                replace H := Option.bind_eq_some_iff.mp H
                obtain ⟨t259, A160, H⟩ := H
                replace H : (if 1 ≤ (l2.length : Int) then ((chirp_mixed.f k1 (rd_L1 x8_1 x31_1) t259 (l2.drop 1)).bind fun t261 => (chirp_mixed.l0 k1 l0 a1 l2 (rd l2 0) (x8_1.set (x31_1 : Int).toNat t261) (t255.length : Int) (wrap64 (x31_1 + 1)))) else (none)) = some r := H
                have A16 := Aside0.mk A160
                clear A160
                by_cases c17 : 1 ≤ (l2.length : Int)
                · rw [if_pos c17] at H
                  have c17b0 := eq_true c17
                  have LTc17 := Aside0.mk (show (((l2.take (1 : Int).toNat).length : Int) = max 1 0) by rw [List.length_take]; omega)
                  (try (have LDc17 := Aside0.mk (show ∀ lo_ : Nat, (((l2.take (1 : Int).toNat).drop lo_).length : Int) = (((1 : Int).toNat - lo_ : Nat) : Int) from fun lo_ => by rw [List.length_drop, List.length_take]; omega)))
                  have c17b1 : decide (1 ≤ (l2.length : Int)) = true := decide_eq_true c17
                  clear c17
                  replace H := Option.bind_eq_some_iff.mp H
                  obtain ⟨t261, A180, H⟩ := H
                  replace H : (chirp_mixed.l0 k1 l0 a1 l2 (rd l2 0) (x8_1.set (x31_1 : Int).toNat t261) (t255.length : Int) (wrap64 (x31_1 + 1))) = some r := H
                  have A18 := Aside0.mk A180
                  clear A180
                  obtain ⟨y264, hy264⟩ : ∃ y_ : List (List Int), y_ = (x8_1.set (x31_1 : Int).toNat t261) := ⟨_, rfl⟩
                  replace H : (chirp_mixed.l0 k1 l0 a1 l2 (rd l2 0) y264 (t255.length : Int) (wrap64 (x31_1 + 1))) = some r := by first | (rw [hy264]; with_reducible exact H) | (have H2_ := (Option.bind_some _ _).symm.trans H; rw [hy264]; with_reducible exact H2_) | (have H2_ := (Option.bind_some _ _).symm.trans H; with_reducible exact H2_) | with_reducible exact H | (rw [hy264]; exact H) | exact H
                  have Ny264 := Aside0.mk hy264
                  clear hy264
                  have H' := Aside0.mk H
                  clear H
                  try go_wp2
                  have n0_ := Aside0.mk (Kd.N_drew HO_8.out)
                  have n1_ := Aside0.mk (below_drew1 HB.out)
                  clear HO_8
                  clear HB
                  have HO_8 := n0_
                  have HB := n1_
                  clear n0_ n1_
                  have p258 : 0 ≤ (x31_1 : Int) := of_decide_eq_true (by first | (with_reducible assumption) | assumption)
                  have q258 : x31_1 < (x8_1.length : Int) := of_decide_eq_true (by first | (with_reducible assumption) | assumption)
                  obtain ⟨ad258, A258_0, c258_0, e258, hx258_0, hl258_0, hi258_0⟩ := at_L1 (Kd.N_reads' HO_8.out).2.2 x31_1 p258 q258
                  cases e258
                  obtain ⟨ce258, hce258, hMe258, hcc258⟩ := Kd.N_get HO_8.out [] x31_1 p258 (by first | exact q258 | exact of_decide_eq_true (by first | (with_reducible assumption) | assumption) | (have e_ := (Kd.N_reads' HO_8.out).1; omega))
                  obtain ⟨ua258_0, uc258_0, rfl, ul258_0, ge258_0⟩ := Kd.FK_slice_open hMe258
                  have hv258_0 := hcc258 0 _ rfl
                  rw [Nat.add_zero, show ((Kd.slice 23 (Kd.int .u64))).sz = 1 from rfl, Nat.mul_one] at hv258_0
                  replace hv258_0 := Option.some.inj (hv258_0.symm.trans hx258_0)
                  injection hv258_0 with hva_ hvn_ hvc_
                  rw [hva_] at ge258_0
                  rw [hvc_] at ul258_0
                  have HL258_0 := Aside0.mk (show Kd.V (Kd.int .u64) 23 _ w.heap.size _ _ (rd_L1 x8_1 x31_1) from Kd.V_mk ul258_0 ge258_0)
                  clear hva_ hvn_ hvc_ ge258_0 ul258_0
                  clear hcc258 hce258
                  have HR258_0 := Aside0.mk hi258_0
                  have HC258_0 := Aside0.mk hl258_0
                  clear hi258_0 hl258_0
                  replace p258 := eq_true p258
                  replace q258 := eq_true q258
                  obtain ⟨i021, hi021, _, hsz21, _⟩ := info_parts info3
                  obtain ⟨A21, hcut21, hA21, hC21⟩ := print_drop_of (P := Tryd.prog) (Value.int .i64) 0 33 3 .i64 Tryd.underlying33 hi021 hsz21 (some ad254) c2 l2 1 (by omega) (of_decide_eq_true (by first | (with_reducible assumption) | assumption)) HC2.out
                  have HR260 := Aside0.mk (Kd.C_of_reads (h1 := fun _ => rfl) (hA21 _ (Kd.reads_of_C HR2.out)))
                  have HC260 := Aside0.mk hC21
                  clear hA21 hC21 hi021 hsz21
                  refine start_ (n := 15) (S := fun w' => w'.cell? (ad258.add (x31_1).toNat) = some (.slice A258_0 (rd_L1 x8_1 x31_1).length c258_0)) (ds := [14]) #[false, false, false, false, false, false, false, false, false, false, false, false, false, false, false] (by kernel_rfl) rfl rfl (hx258_0) (fun hHeld => ?_); refine with_tabW chirp_mixed.tab8 chirp_mixed.bits8 (fun HT_ HW_ => ?_)
                  generalize wr.drew = w20 at HO_8 HB HL258_0 HR258_0 HR260 hx258_0 hHeld ⊢
                  refine pure_ (i := 0) (N := some 34) (v := ?_) (a' := ?_) #[true, false, false, false, false, false, false, false, false, false, false, false, false, false, false] rfl rfl (any_of HT_.out (by kernel_rfl)) (fun _ _ _ h => h) (Or.inl ⟨by rfl, ?_⟩) ?_ ?_
                  rotate_left
                  · intro w'
                    go_simp
                    with_reducible rfl
                  rotate_left
                  · simp only [Act.put, List.setIfInBounds_toArray, List.set_cons_zero, List.set_cons_succ, i64_w, i32_w]
                    rfl
                  refine pure_ (i := 1) (N := some 35) (v := ?_) (a' := ?_) #[true, true, false, false, false, false, false, false, false, false, false, false, false, false, false] rfl rfl (any_of HT_.out (by kernel_rfl)) (fun _ _ _ h => h) (Or.inl ⟨by rfl, ?_⟩) ?_ ?_
                  rotate_left
                  · intro w'
                    go_simp
                    with_reducible rfl
                  rotate_left
                  · simp only [Act.put, List.setIfInBounds_toArray, List.set_cons_zero, List.set_cons_succ, i64_w, i32_w]
                    rfl
                  refine pure_ (i := 2) (N := some 36) (v := ?_) (a' := ?_) #[true, true, true, false, false, false, false, false, false, false, false, false, false, false, false] rfl rfl (any_of HT_.out (by kernel_rfl)) (fun _ _ _ h => h) (Or.inl ⟨by rfl, ?_⟩) ?_ ?_
                  rotate_left
                  · intro w'
                    go_simp
                    with_reducible rfl
                  rotate_left
                  · simp only [Act.put, List.setIfInBounds_toArray, List.set_cons_zero, List.set_cons_succ, i64_w, i32_w]
                    rfl
                  refine pure_ (i := 3) (N := some 37) (v := ?_) (a' := ?_) #[true, true, true, true, false, false, false, false, false, false, false, false, false, false, false] rfl rfl (any_of HT_.out (by kernel_rfl)) (fun _ _ _ h => h) (Or.inl ⟨by rfl, ?_⟩) ?_ ?_
                  rotate_left
                  · intro w'
                    go_simp
                    with_reducible rfl
                  rotate_left
                  · simp only [Act.put, List.setIfInBounds_toArray, List.set_cons_zero, List.set_cons_succ, i64_w, i32_w]
                    rfl
                  refine pure_ (i := 4) (N := some 38) (v := ?_) (a' := ?_) #[true, true, true, true, true, false, false, false, false, false, false, false, false, false, false] rfl rfl (any_of HT_.out (by kernel_rfl)) (fun _ _ _ h => h) (Or.inl ⟨by rfl, ?_⟩) ?_ ?_
                  rotate_left
                  · intro w'
                    go_simp
                    with_reducible rfl
                  rotate_left
                  · simp only [Act.put, List.setIfInBounds_toArray, List.set_cons_zero, List.set_cons_succ, i64_w, i32_w]
                    rfl
                  refine pure_ (i := 6) (N := some 40) (v := ?_) (a' := ?_) #[true, true, true, true, true, false, true, false, false, false, false, false, false, false, false] rfl rfl (any_of HT_.out (by kernel_rfl)) (fun _ _ _ h => h) (Or.inl ⟨by rfl, ?_⟩) ?_ ?_
                  rotate_left
                  · intro w'
                    go_simp
                    with_reducible rfl
                  rotate_left
                  · simp only [Act.put, List.setIfInBounds_toArray, List.set_cons_zero, List.set_cons_succ, i64_w, i32_w]
                    rfl
                  refine pure_ (i := 7) (N := some 41) (v := ?_) (a' := ?_) #[true, true, true, true, true, false, true, true, false, false, false, false, false, false, false] rfl rfl (any_of HT_.out (by kernel_rfl)) (fun _ _ _ h => h) (Or.inl ⟨by rfl, ?_⟩) ?_ ?_
                  rotate_left
                  · intro w'
                    go_simp
                    with_reducible rfl
                  rotate_left
                  · simp only [Act.put, List.setIfInBounds_toArray, List.set_cons_zero, List.set_cons_succ, i64_w, i32_w]
                    rfl
                  refine pure_ (i := 8) (N := some 42) (v := ?_) (a' := ?_) #[true, true, true, true, true, false, true, true, true, false, false, false, false, false, false] rfl rfl (any_of HT_.out (by kernel_rfl)) (fun _ _ _ h => h) (Or.inl ⟨by rfl, ?_⟩) ?_ ?_
                  rotate_left
                  · intro w'
                    go_simp
                    with_reducible rfl
                  rotate_left
                  · simp only [Act.put, List.setIfInBounds_toArray, List.set_cons_zero, List.set_cons_succ, i64_w, i32_w]
                    rfl
                  refine pure_ (i := 10) (N := some 44) (v := ?_) (a' := ?_) #[true, true, true, true, true, false, true, true, true, false, true, false, false, false, false] rfl rfl (any_of HT_.out (by kernel_rfl)) (fun _ _ _ h => h) (Or.inl ⟨by rfl, ?_⟩) ?_ ?_
                  rotate_left
                  · intro w'
                    go_simp
                    with_reducible rfl
                  rotate_left
                  · simp only [Act.put, List.setIfInBounds_toArray, List.set_cons_zero, List.set_cons_succ, i64_w, i32_w]
                    rfl
                  refine pure_ (i := 11) (N := some 45) (v := ?_) (a' := ?_) #[true, true, true, true, true, false, true, true, true, false, true, true, false, false, false] rfl rfl (any_of HT_.out (by kernel_rfl)) (fun _ _ _ h => h) (Or.inl ⟨by rfl, ?_⟩) ?_ ?_
                  rotate_left
                  · intro w'
                    go_simp
                    with_reducible rfl
                  rotate_left
                  · simp only [Act.put, List.setIfInBounds_toArray, List.set_cons_zero, List.set_cons_succ, i64_w, i32_w]
                    rfl
                  refine take_ (i := 5) (N := some 39) (v := ?_) (a' := ?_) #[true, true, true, true, true, true, true, true, true, false, true, true, false, false, false] rfl rfl (take_ofW HT_.out HW_.out (by kernel_rfl)) (fun _ _ _ h => h) (Or.inl ⟨by rfl, ?_⟩) hHeld ?_ ?_
                  rotate_left
                  · intro w' s0
                    go_simp
                    with_reducible rfl
                  rotate_left
                  · simp only [Act.put, List.setIfInBounds_toArray, List.set_cons_zero, List.set_cons_succ, i64_w, i32_w]
                    rfl
                  refine one_ (i := 9) (N := some 43) #[true, true, true, true, true, true, true, true, true, true, true, true, false, false, false] rfl rfl (one_of HT_.out (by kernel_rfl)) (by decide) (fun K hK => ?_)
                  refine goes_ Tryd.func30 (by kernel_rfl) rfl #[.int .u64 a1, .int .u64 (IntKind.u64.wrap ((rd l2 0)))] (by rfl) rfl rfl (by (try simp only [List.map_toArray, List.map_cons, List.map_nil]); first | done | rfl | (simp only [List.length_drop, List.length_take]; rfl)) ?_
                  with_reducible refine (gold_Pow.calls k1 a1 (IntKind.u64.wrap ((rd l2 0))) t259 _ A16.out).mono ?_
                  rintro e w22 ⟨rfl, hb⟩
                  have HS0_ := (hb.cell (World.block_lt_of_cell? _ _ (hHeld))).trans (hHeld)
                  refine ⟨_, rfl, ?_⟩
                  have n0_ := Aside0.mk (Kd.N_below (by (with_reducible repeat (first | apply Kd.N_alloc | apply Kd.N_drewN | apply Kd.N_drew)); exact HO_8.out) hb)
                  have n1_ := Aside0.mk (Kd.V_below (by (with_reducible repeat (first | apply Kd.V_alloc | apply Kd.V_drewN | apply Kd.V_drew)); exact HL258_0.out) hb)
                  have n2_ := Aside0.mk (Kd.C_below (by repeat (first | (with_reducible exact HR258_0.out) | (with_reducible refine Kd.C_alloc ?_ _) | (with_reducible refine Kd.C_drewN ?_ _) | (with_reducible refine Kd.C_drew ?_) | exact HR258_0.out)) hb)
                  have n3_ := Aside0.mk (below_step (by repeat (first | (with_reducible first | exact HB.out | apply below_alloc | apply pw_below_drewN | apply below_drew1) | exact HB.out)) hb)
                  clear HO_8
                  clear HL258_0
                  clear HR258_0
                  clear HB
                  have HO_8 := n0_
                  have HL258_0 := n1_
                  have HR258_0 := n2_
                  have HB := n3_
                  clear n0_ n1_ n2_ n3_
                  (try clear hb)
                  (try clear hb2)
                  (try clear hk)
                  (try clear hi)
                  refine hK.out _ _ (HS0_) (fun hHeld => ?_)
                  clear hK K
                  refine norm_ (a' := ?_) ?_ ?_
                  rotate_left
                  · show Act.put _ (some 43) _ = _
                    simp only [Act.put, List.setIfInBounds_toArray, List.set_cons_zero, List.set_cons_succ, i64_w, i32_w]
                    rfl
                  refine one_ (i := 12) (N := some 46) #[true, true, true, true, true, true, true, true, true, true, true, true, true, false, false] rfl rfl (one_of HT_.out (by kernel_rfl)) (by decide) (fun K hK => ?_)
                  refine goes_ Tryd.func33 (by kernel_rfl) rfl #[.slice A258_0 (rd_L1 x8_1 x31_1).length c258_0, .int .u64 t259, .slice A21 (l2.drop 1).length (c2 - 1)] (by rfl) rfl rfl (by (try simp only [List.map_toArray, List.map_cons, List.map_nil]); first | done | (rw [show (l2.drop 1).length = (l2.length - 1) from List.length_drop] <;> rfl) | rfl | (simp only [List.length_drop, List.length_take]; rfl)) ?_
                  with_reducible refine (ih k1 (by have := HK1.out; omega) _ _ (rd_L1 x8_1 x31_1) t259 _ _ (l2.drop 1) t261 _ ?side1 ?side2 ?side3 ?side4 A18.out).mono ?_
                  (case side1 => repeat (first | exact (by repeat (first | (with_reducible exact HR258_0.out) | (with_reducible refine Kd.C_alloc ?_ _) | (with_reducible refine Kd.C_drewN ?_ _) | (with_reducible refine Kd.C_drew ?_) | exact HR258_0.out)) | (with_reducible refine Kd.C_alloc ?_ _) | (with_reducible refine Kd.C_drewN ?_ _) | (with_reducible refine Kd.C_drew ?_)))
                  (case side2 => exact HC258_0.out)
                  (case side3 => repeat (first | exact (Kd.C_below HR260.out HB.out) | (with_reducible refine Kd.C_alloc ?_ _) | (with_reducible refine Kd.C_drewN ?_ _) | (with_reducible refine Kd.C_drew ?_)))
                  (case side4 => exact HC260.out)
                  rintro e w23 ⟨v262, rfl, ho0, hb⟩
                  have HS0_ := (hb.cell (World.block_lt_of_cell? _ _ (hHeld))).trans (hHeld)
                  refine ⟨_, rfl, ?_⟩
                  have n0_ := Aside0.mk (Kd.N_elder' (by (with_reducible repeat (first | apply Kd.N_alloc | apply Kd.N_drewN | apply Kd.N_drew)); exact HO_8.out) (Kd.R_base ho0) hb)
                  have n1_ := Aside0.mk (Kd.V_elder' (by (with_reducible repeat (first | apply Kd.V_alloc | apply Kd.V_drewN | apply Kd.V_drew)); exact HL258_0.out) (Kd.R_base ho0) hb)
                  have n2_ := Aside0.mk (Kd.R_lower ho0 (below_size (by repeat (first | (with_reducible first | exact HB.out | apply below_alloc | apply pw_below_drewN | apply below_drew1) | exact HB.out))))
                  have n3_ := Aside0.mk (Kd.C_below (by repeat (first | (with_reducible exact HR258_0.out) | (with_reducible refine Kd.C_alloc ?_ _) | (with_reducible refine Kd.C_drewN ?_ _) | (with_reducible refine Kd.C_drew ?_) | exact HR258_0.out)) hb)
                  have n4_ := Aside0.mk (below_step (by repeat (first | (with_reducible first | exact HB.out | apply below_alloc | apply pw_below_drewN | apply below_drew1) | exact HB.out)) hb)
                  clear HO_8
                  clear HL258_0
                  clear HR258_0
                  clear HB
                  have HO_8 := n0_
                  have HL258_0 := n1_
                  have HO263 := n2_
                  have HR258_0 := n3_
                  have HB := n4_
                  clear n0_ n1_ n2_ n3_ n4_
                  (try clear hb)
                  (try clear hb2)
                  (try clear hk)
                  (try clear hi)
                  (try clear ho0)
                  have p19 : 0 ≤ (x31_1 : Int) := of_decide_eq_true (by first | (with_reducible assumption) | assumption)
                  have q19 : (x31_1 : Int) < ((x8_1.length : Int) : Int) := of_decide_eq_true (by first | (with_reducible assumption) | assumption)
                  obtain ⟨go19, co19, eo19, gb19, gl19, cl19, HG19⟩ := Kd.N_form HO_8.out (by omega)
                  (first | cases eo19 | (injection eo19 with ea_ en_ ec_; (first | subst ea_ | (injection ea_ with ea_; subst ea_)); subst ec_; clear en_))
                  have GB19 := Aside0.mk gb19
                  have GG19 := Aside0.mk HG19
                  clear gb19 gl19 HG19
                  (first | simp only [add_plain] at hx258_0 | skip)
                  obtain ⟨ce19, hcl19, hM19, hcc19, hfr19⟩ := Kd.N_elem HO_8.out [] (x31_1 : Int) p19 q19
                  obtain ⟨ua19_0, uc19_0, rfl, ul19_0, ge19_0⟩ := Kd.FK_slice_open hM19
                  have hx19_0 := hcc19 0 _ rfl
                  have hf19_0 := hfr19 0
                  (try simp only [show ((Kd.slice 23 (Kd.int .u64))).sz = 1 from rfl, Nat.mul_one, Nat.add_zero] at hx19_0)
                  (try simp only [show ((Kd.slice 23 (Kd.int .u64))).sz = 1 from rfl, Nat.mul_one, Nat.add_zero] at hf19_0)
                  clear hcl19 hcc19 hfr19 hM19
                  replace p19 := eq_true p19
                  replace q19 := eq_true q19
                  obtain ⟨AoZ262, coZ262, eoZ262⟩ := Kd.R_slice HO263.out; subst eoZ262
                  have HX24 := Aside0.mk (show Kd.N (Kd.slice 23 (Kd.int .u64)) 22 _ w.heap.size (fun k_ => some k_ ≠ ((.slice AoZ262 t261.length coZ262) : Value).ownBlock) (.slice (some ⟨go19, 0, none⟩) x8_1.length co12) x8_1 from (Kd.N_mono (HO_8.out) (fun k_ hk => hk.2)))
                  replace HX24 := Aside0.mk (show Kd.N (Kd.slice 23 (Kd.int .u64)) 22 _ w.heap.size (fun _ => True) (.slice (some ⟨go19, 0, none⟩) x8_1.length co12) x8_1 from Kd.N_mono HX24.out (fun k_ hk => trivial))
                  obtain ⟨ce24, hcl24, hM24, hcc24, hfr24⟩ := Kd.N_elem HX24.out [] (x31_1 : Int) (of_decide_eq_true (by first | (with_reducible assumption) | assumption)) (by have h_ : (x31_1 : Int) < ((x8_1.length : Int) : Int) := of_decide_eq_true (by first | (with_reducible assumption) | assumption); first | exact h_ | (have e_ := (Kd.N_reads' HO_8.out).1; omega) | simpa using h_)
                  obtain ⟨ua24_0, uc24_0, rfl, ul24_0, ge24_0⟩ := Kd.FK_slice_open hM24
                  have HP24 := (Kd.N_seg HX24.out (x31_1 : Int) (of_decide_eq_true (by first | (with_reducible assumption) | assumption)) (by have h_ : (x31_1 : Int) < ((x8_1.length : Int) : Int) := of_decide_eq_true (by first | (with_reducible assumption) | assumption); first | exact h_ | (have e_ := (Kd.N_reads' HO_8.out).1; omega) | simpa using h_) (seg := [(.slice AoZ262 t261.length coZ262)]) (j := 0) hcl24 hcc24 (show 1 ≤ 1 from by decide) (x' := t261) (Kd.FK_slice_mk (Kd.R_reads' (Kd.R_mono (ok' := (fun k_ => ((fun _ => True)) k_ ∧ k_ ≠ go19)) (Kd.R_apart' (HO263.out) (Kd.N_typed HO_8.out) (by decide)) (fun k_ hk => ⟨trivial, fun e_ => (hk.2) (by rw [e_]; rfl)⟩))).2.1 (Kd.R_F (Kd.R_mono (ok' := (fun k_ => ((fun _ => True)) k_ ∧ k_ ≠ go19)) (Kd.R_apart' (HO263.out) (Kd.N_typed HO_8.out) (by decide)) (fun k_ hk => ⟨trivial, fun e_ => (hk.2) (by rw [e_]; rfl)⟩)))) (fun _ hk => hk)).1
                  (try simp only [show ((Kd.slice 23 (Kd.int .u64))).sz = 1 from rfl, Nat.mul_one, Nat.add_zero] at HP24)
                  rw [← Ny264.out] at HP24
                  have HQ24 := Aside0.mk HP24
                  clear hcl24 hcc24 hfr24 hM24 HP24
                  refine hK.out _ _ (HS0_) (fun hHeld => ?_)
                  clear hK K
                  refine norm_ (a' := ?_) ?_ ?_
                  rotate_left
                  · show Act.put _ (some 46) _ = _
                    simp only [Act.put, List.setIfInBounds_toArray, List.set_cons_zero, List.set_cons_succ, i64_w, i32_w]
                    rfl
                  refine pure_ (i := 13) (N := some 47) (v := ?_) (a' := ?_) #[true, true, true, true, true, true, true, true, true, true, true, true, true, true, false] rfl rfl (any_of HT_.out (by kernel_rfl)) (fun _ _ _ h => h) (Or.inl ⟨by rfl, ?_⟩) ?_ ?_
                  rotate_left
                  · intro w'
                    go_simp
                    with_reducible rfl
                  rotate_left
                  · simp only [Act.put, List.setIfInBounds_toArray, List.set_cons_zero, List.set_cons_succ, i64_w, i32_w]
                    rfl
                  refine last_ (i := 14) (N := none) #[true, true, true, true, true, true, true, true, true, true, true, true, true, true, true] rfl rfl (one_of HT_.out (by kernel_rfl)) (by decide) (fun K hK => ?_)
                  refine skip_ (w1 := ?_) (by rfl) rfl ?_ ?_
                  rotate_left
                  · go_simp
                    rfl
                  refine hK.out _ _ ?_
                  clear hK K
                  refine done_ (done_of HT_.out (by kernel_rfl)) ?_
                  try go_wp2
                  (try simp only [← hl8_1])
                  (first | go_roundg k1 | (simp only [add_plain] at *; go_roundg k1))
                  case measure => have := HK1.out; omega
                  case rel => exact ⟨(y264), (wrap64 (x31_1 + 1)), (by first | rfl | (simp; done) | (simp [*]; done)), H', ⟨by have := HK1.out; omega⟩, ⟨by (try simp only [hl8_1]); (with_reducible repeat (first | apply Kd.N_alloc | apply Kd.N_drewN | apply Kd.N_drew)); exact HQ24.out⟩, ⟨by repeat (first | (with_reducible first | exact HB.out | apply below_alloc | apply pw_below_drewN | apply below_drew1 | refine below_set ?_ GB19.out) | exact HB.out)⟩⟩
                · rw [if_neg c17] at H
                  exact absurd H (by simp)
              · rw [if_neg c15] at H
                exact absurd H (by simp)
            · rw [if_neg c14] at H
              exact absurd H (by simp)
          · rw [if_neg c13] at H
            have c13b0 : decide (x31_1 < (t255.length : Int)) = false := decide_eq_false c13
            (try (have c13b0_0 := c13b0; simp only [hl8_1] at c13b0_0))
            clear c13
            by_cases c25 : 0 ≤ (l0.length : Int)
            · rw [if_pos c25] at H
              have c25b0 := eq_true c25
              have LTc25 := Aside0.mk (show (((l0.take (0 : Int).toNat).length : Int) = max 0 0) by rw [List.length_take]; omega)
              (try (have LDc25 := Aside0.mk (show ∀ lo_ : Nat, (((l0.take (0 : Int).toNat).drop lo_).length : Int) = (((0 : Int).toNat - lo_ : Nat) : Int) from fun lo_ => by rw [List.length_drop, List.length_take]; omega)))
              have c25b1 : decide (0 ≤ (l0.length : Int)) = true := decide_eq_true c25
              clear c25
              by_cases c26 : ((l0.length : Int) : Int).toNat ≤ 35184372088832
              · rw [if_pos c26] at H
                have c26b0 := eq_true c26
                have c26b1 : decide (((l0.length : Int) : Int).toNat ≤ 35184372088832) = true := decide_eq_true c26
                clear c26
                obtain ⟨y265, hy265⟩ : ∃ y_ : List Int, y_ = (List.replicate ((l0.length : Int) : Int).toNat 0) := ⟨_, rfl⟩
                replace H : (chirp_mixed.l1 k1 a1 (rd l2 0) x8_1 y265 1 (y265.length : Int) 0) = some r := by first | (rw [hy265]; with_reducible exact H) | (have H2_ := (Option.bind_some _ _).symm.trans H; rw [hy265]; with_reducible exact H2_) | (have H2_ := (Option.bind_some _ _).symm.trans H; with_reducible exact H2_) | with_reducible exact H | (rw [hy265]; exact H) | exact H
                have Ny265 := Aside0.mk hy265
                clear hy265
                have H' := Aside0.mk H
                clear H
                go_wp2_with (first | ((with_reducible refine gate_dst (N := 51) rfl ?_); refine Kd.R_make (Kd.int .u64) _ 23 rfl (N := 51) rfl 22 _ _ rfl (l0.length : Int) rfl rfl Tryd.underlying22 (.int .u64 0) 8 info23 rfl (by decide) (by omega) 0 (ok := fun _ => True) (okp := fun _ => True) rfl (fun _ hk => hk) trivial (of_decide_eq_true (by first | (with_reducible assumption) | assumption)) (Nat.le_trans (Nat.mul_le_mul_right _ (of_decide_eq_true (by first | (with_reducible assumption) | assumption) : (l0.length : Int).toNat ≤ 35184372088832)) (by omega)) (Below.refl _ _) (Nat.le_refl _) ?_; intro v266 w27 ho28 hb hg_ hnew_; clear hg_ hnew_; (first | rw [← Ny265.out] at ho28 | (simp only [Int.reduceToNat] at ho28; rw [← Ny265.out] at ho28)); have n0_ := Aside0.mk (Kd.N_elder' (by (with_reducible repeat (first | apply Kd.N_alloc | apply Kd.N_drewN | apply Kd.N_drew)); exact HO_8.out) (Kd.R_base ho28) hb); have n1_ := Aside0.mk (Kd.R_lower ho28 (below_size (by repeat (first | (with_reducible first | exact HB.out | apply below_alloc | apply pw_below_drewN | apply below_drew1) | exact HB.out)))); have n2_ := Aside0.mk (below_step (by repeat (first | (with_reducible first | exact HB.out | apply below_alloc | apply pw_below_drewN | apply below_drew1) | exact HB.out)) hb); clear HO_8; clear HB; have HO_8 := n0_; have HO267 := n1_; have HB := n2_; clear n0_ n1_ n2_; clear hb ho28; obtain ⟨Ao29, co29, eo29⟩ := Kd.R_slice HO267.out; subst eo29))
                go_loopg [11, 54] k1 (fun kq v11 v54 w' => ∃ (x10_2 : List Int) (x11_2 : Int) (x54_2 : Int), v11 = .int .u64 x11_2 ∧ v54 = .int .i64 x54_2 ∧ Aside0 (chirp_mixed.l1 kq a1 (rd l2 0) x8_1 x10_2 x11_2 (y265.length : Int) x54_2 = some r) ∧ Aside0 (kq ≤ k1) ∧ Aside0 (Kd.N (Kd.slice 23 (Kd.int .u64)) 22 w' w.heap.size (fun k_ => some k_ ≠ ((.slice Ao29 y265.length co29) : Value).ownBlock) (.slice Ao12 x8_1.length co12) x8_1) ∧ Aside0 (Kd.R (Kd.int .u64) 23 w' w.heap.size (fun _ => True) (.slice Ao29 y265.length co29) x10_2) ∧ Aside0 (Below w.heap.size w w'))
                case atStart => exact ⟨(y265), (1), (0), (by first | rfl | (simp; done) | (simp [*]; done)), (by first | rfl | (simp; done) | (simp [*]; done)), H', ⟨Nat.le_refl _⟩, ⟨by (try simp only [hl8_1]); (with_reducible repeat (first | apply Kd.N_alloc | apply Kd.N_drewN | apply Kd.N_drew)); exact Kd.N_mono HO_8.out (fun _ hk => hk.2)⟩, ⟨by (try simp only [hl8_1]); (with_reducible repeat (first | apply Kd.R_alloc | apply Kd.R_drewN | apply Kd.R_drew)); exact HO267.out⟩, ⟨by repeat (first | (with_reducible first | exact HB.out | apply below_alloc | apply pw_below_drewN | apply below_drew1) | exact HB.out)⟩⟩
                case round =>
                  clear H'
                  try clear c1
                  try clear p1
                  try clear q1
                  try clear hx1
                  try clear c2
                  try clear p2
                  try clear q2
                  try clear hx2
                  try clear qi2
                  try clear c3
                  try clear c4
                  try clear c4b0
                  try clear c4b1
                  try clear c4b2
                  try clear c5
                  try clear c5b0
                  try clear c5b1
                  try clear p6
                  try clear c9
                  try clear c9b0
                  try clear c9b1
                  try clear c13
                  try clear c13b0
                  try clear c14
                  try clear c14b0
                  try clear c15
                  try clear c15b0
                  try clear c17
                  try clear c17b0
                  try clear c17b1
                  try clear c19
                  try clear p19
                  try clear q19
                  try clear hx19
                  try clear hf19
                  try clear c24
                  try clear p24
                  try clear q24
                  try clear hx24
                  try clear qi24
                  try clear c25
                  try clear c25b0
                  try clear c25b1
                  try clear p25
                  try clear q25
                  try clear hx25
                  try clear qi25
                  try clear c26
                  try clear c26b0
                  try clear c26b1
                  try clear c27
                  try clear hx19_0
                  try clear hx249_0
                  try clear hx254_0
                  try clear hx258_0
                  try clear p19
                  try clear p2
                  try clear p249
                  try clear p254
                  try clear p258
                  try clear q19
                  try clear q2
                  try clear q249
                  try clear q254
                  try clear q258
                  obtain ⟨x10_2, x11_2, x54_2, rfl, rfl, HA, HK2, HO_8, HO_10, HB⟩ := hrel
                  have hl10_2 := (Kd.R_reads' HO_10.out).1
                  rw [hl10_2] at HO_10
                  (try simp only [hl10_2])
                  (try simp only [hl10_2] at HO_8)
                  cases gk with
                  | zero => exact absurd HA.out (by simp [chirp_mixed.l1])
                  | succ k2 =>
                    have H := HA.out
                    clear HA
                    simp only [chirp_mixed.l1] at H
                    by_cases c30 : x54_2 < (y265.length : Int)
                    · rw [if_pos c30] at H
                      have c30b0 : decide (x54_2 < (y265.length : Int)) = true := decide_eq_true c30
                      (try (have c30b0_0 := c30b0; simp only [hl8_1] at c30b0_0))
                      (try (have c30b0_1 := c30b0; rw [LTc25.out] at c30b0_1))
                      (try (have c30b0_1p := eq_true (of_decide_eq_true c30b0_1)))
                      (try (have c30b0_2 := c30b0; rw [LDc25.out] at c30b0_2))
                      (try (have c30b0_2p := eq_true (of_decide_eq_true c30b0_2)))
                      (try (have c30b0_3 := c30b0; simp only [hl10_2] at c30b0_3))
                      clear c30
                      have H' := Aside0.mk H
                      clear H
                      go_wp2
                      go_loopg [13, 14] k2 (fun kq v13 v14 w' => ∃ (x13_3 : Int) (x14_3 : Int), v13 = .int .u64 x13_3 ∧ v14 = .int .i64 x14_3 ∧ Aside0 (chirp_mixed.l2 kq a1 (rd l2 0) x8_1 x10_2 x11_2 x54_2 x13_3 x14_3 (y265.length : Int) x54_2 = some r) ∧ Aside0 (kq ≤ k2) ∧ Aside0 (Kd.N (Kd.slice 23 (Kd.int .u64)) 22 w' w.heap.size (fun k_ => some k_ ≠ ((.slice Ao29 x10_2.length co29) : Value).ownBlock) (.slice Ao12 x8_1.length co12) x8_1) ∧ Aside0 (Kd.R (Kd.int .u64) 23 w' w.heap.size (fun _ => True) (.slice Ao29 x10_2.length co29) x10_2) ∧ Aside0 (Below w.heap.size w w'))
                      case atStart => exact ⟨(0), (wrap64 ((rd l2 0) - 1)), (by first | rfl | (simp; done) | (simp [*]; done)), (by first | rfl | (simp; done) | (simp [*]; done)), H', ⟨Nat.le_refl _⟩, ⟨by (try simp only [hl8_1]); (try simp only [hl10_2]); (with_reducible repeat (first | apply Kd.N_alloc | apply Kd.N_drewN | apply Kd.N_drew)); exact HO_8.out⟩, ⟨by (try simp only [hl8_1]); (try simp only [hl10_2]); (with_reducible repeat (first | apply Kd.R_alloc | apply Kd.R_drewN | apply Kd.R_drew)); exact HO_10.out⟩, ⟨by repeat (first | (with_reducible first | exact HB.out | apply below_alloc | apply pw_below_drewN | apply below_drew1) | exact HB.out)⟩⟩
                      case round =>
                        clear H'
                        try clear c1
                        try clear p1
                        try clear q1
                        try clear hx1
                        try clear c2
                        try clear p2
                        try clear q2
                        try clear hx2
                        try clear qi2
                        try clear c3
                        try clear c4
                        try clear c4b0
                        try clear c4b1
                        try clear c4b2
                        try clear c5
                        try clear c5b0
                        try clear c5b1
                        try clear p6
                        try clear c9
                        try clear c9b0
                        try clear c9b1
                        try clear c13
                        try clear c13b0
                        try clear c14
                        try clear c14b0
                        try clear c15
                        try clear c15b0
                        try clear c17
                        try clear c17b0
                        try clear c17b1
                        try clear c19
                        try clear p19
                        try clear q19
                        try clear hx19
                        try clear hf19
                        try clear c24
                        try clear p24
                        try clear q24
                        try clear hx24
                        try clear qi24
                        try clear c25
                        try clear c25b0
                        try clear c25b1
                        try clear p25
                        try clear q25
                        try clear hx25
                        try clear qi25
                        try clear c26
                        try clear c26b0
                        try clear c26b1
                        try clear c27
                        try clear c30
                        try clear c30b0
                        try clear hx19_0
                        try clear hx249_0
                        try clear hx254_0
                        try clear hx258_0
                        try clear p1
                        try clear p19
                        try clear p2
                        try clear p24
                        try clear p249
                        try clear p25
                        try clear p254
                        try clear p258
                        try clear p6
                        try clear q1
                        try clear q19
                        try clear q2
                        try clear q24
                        try clear q249
                        try clear q25
                        try clear q254
                        try clear q258
                        obtain ⟨x13_3, x14_3, rfl, rfl, HA, HK3, HO_8, HO_10, HB⟩ := hrel
                        cases gk with
                        | zero => exact absurd HA.out (by simp [chirp_mixed.l2])
                        | succ k3 =>
                          have H := HA.out
                          clear HA
                          simp only [chirp_mixed.l2] at H
                          by_cases c31 : x14_3 ≥ 0
                          · rw [if_pos c31] at H
                            have c31b0 : decide (0 ≤ x14_3) = true := decide_eq_true c31
                            clear c31
                            replace H := Option.bind_eq_some_iff.mp H
                            obtain ⟨t268, A320, H⟩ := H
                            replace H : (if 0 ≤ x14_3 then (if x14_3 < (x8_1.length : Int) then (if ((rd_L1 x8_1 x14_3).length : Int) = 0 then (none) else (if 0 ≤ (Int.tmod x54_2 ((rd_L1 x8_1 x14_3).length : Int)) then (if (Int.tmod x54_2 ((rd_L1 x8_1 x14_3).length : Int)) < ((rd_L1 x8_1 x14_3).length : Int) then ((gold_Add.f t268 (rd (rd_L1 x8_1 x14_3) (Int.tmod x54_2 ((rd_L1 x8_1 x14_3).length : Int)))).bind fun t272 => (chirp_mixed.l2 k3 a1 (rd l2 0) x8_1 x10_2 x11_2 x54_2 t272 (wrap64 (x14_3 - 1)) (y265.length : Int) x54_2)) else (none)) else (none))) else (none)) else (none)) = some r := H
                            have A32 := Aside0.mk A320
                            clear A320
                            by_cases c33 : 0 ≤ x14_3
                            · rw [if_pos c33] at H
                              have c33b0 : decide (0 ≤ x14_3) = true := decide_eq_true c33
                              clear c33
                              by_cases c34 : x14_3 < (x8_1.length : Int)
                              · rw [if_pos c34] at H
                                have c34b0 : decide (x14_3 < (x8_1.length : Int)) = true := decide_eq_true c34
                                (try (have c34b0_0 := c34b0; simp only [hl8_1] at c34b0_0))
                                (try (have c34b0_1 := c34b0; rw [LTc25.out] at c34b0_1))
                                (try (have c34b0_1p := eq_true (of_decide_eq_true c34b0_1)))
                                (try (have c34b0_2 := c34b0; rw [LDc25.out] at c34b0_2))
                                (try (have c34b0_2p := eq_true (of_decide_eq_true c34b0_2)))
                                (try (have c34b0_3 := c34b0; simp only [hl10_2] at c34b0_3))
                                clear c34
                                by_cases c35 : ((rd_L1 x8_1 x14_3).length : Int) = 0
                                · rw [if_pos c35] at H
                                  exact absurd H (by simp)
                                · rw [if_neg c35] at H
                                  have c35b0 : (((rd_L1 x8_1 x14_3).length : Int) == 0) = false := beq_eq_false_iff_ne.mpr c35
                                  have c35b1 : (((rd_L1 x8_1 x14_3).length : Int) != 0) = true := bne_iff_ne.mpr c35
                                  have c35b2 : ¬ ((rd_L1 x8_1 x14_3) = []) := fun h_ => c35 (by rw [h_]; rfl)
                                  obtain ⟨ji36, hji36⟩ : ∃ j_ : Int, (Int.tmod x54_2 ((rd_L1 x8_1 x14_3).length : Int)) = j_ := ⟨_, rfl⟩
                                  (try (have hji36l := hji36; simp only [hl8_1, hl10_2] at hji36l; (try (have hji36lw := hji36l; simp only [← i64_w] at hji36lw))))
                                  replace H : (if 0 ≤ (ji36) then (if (ji36) < ((rd_L1 x8_1 x14_3).length : Int) then ((gold_Add.f t268 (rd (rd_L1 x8_1 x14_3) (ji36))).bind fun t272 => (chirp_mixed.l2 k3 a1 (rd l2 0) x8_1 x10_2 x11_2 x54_2 t272 (wrap64 (x14_3 - 1)) (y265.length : Int) x54_2)) else (none)) else (none)) = some r := by first | (rw [hji36] at H; exact H) | (simp only [hji36] at H ⊢; exact H)
                                  (try rw [hji36] at A32)
                                  by_cases c37 : 0 ≤ (ji36)
                                  · rw [if_pos c37] at H
                                    have c37b0 : decide (0 ≤ (ji36)) = true := decide_eq_true c37
                                    clear c37
                                    by_cases c38 : (ji36) < ((rd_L1 x8_1 x14_3).length : Int)
                                    · rw [if_pos c38] at H
                                      have c38b0 : decide ((ji36) < ((rd_L1 x8_1 x14_3).length : Int)) = true := decide_eq_true c38
                                      (try (have c38b0_0 := c38b0; simp only [hl8_1] at c38b0_0))
                                      (try (have c38b0_1 := c38b0; rw [LTc25.out] at c38b0_1))
                                      (try (have c38b0_1p := eq_true (of_decide_eq_true c38b0_1)))
                                      (try (have c38b0_2 := c38b0; rw [LDc25.out] at c38b0_2))
                                      (try (have c38b0_2p := eq_true (of_decide_eq_true c38b0_2)))
                                      (try (have c38b0_3 := c38b0; simp only [hl10_2] at c38b0_3))
                                      clear c38
                                      replace H := Option.bind_eq_some_iff.mp H
                                      obtain ⟨t272, A390, H⟩ := H
                                      replace H : (chirp_mixed.l2 k3 a1 (rd l2 0) x8_1 x10_2 x11_2 x54_2 t272 (wrap64 (x14_3 - 1)) (y265.length : Int) x54_2) = some r := H
                                      have A39 := Aside0.mk A390
                                      clear A390
                                      have H' := Aside0.mk H
                                      clear H
                                      try go_wp2
                                      have n0_ := Aside0.mk (Kd.N_drew HO_8.out)
                                      have n1_ := Aside0.mk (Kd.R_drew HO_10.out)
                                      have n2_ := Aside0.mk (below_drew1 HB.out)
                                      clear HO_8
                                      clear HO_10
                                      clear HB
                                      have HO_8 := n0_
                                      have HO_10 := n1_
                                      have HB := n2_
                                      clear n0_ n1_ n2_
                                      have p269 : 0 ≤ (x14_3 : Int) := of_decide_eq_true (by first | (with_reducible assumption) | assumption)
                                      have q269 : x14_3 < (x8_1.length : Int) := of_decide_eq_true (by first | (with_reducible assumption) | assumption)
                                      obtain ⟨ad269, A269_0, c269_0, e269, hx269_0, hl269_0, hi269_0⟩ := at_L1 (Kd.N_reads' HO_8.out).2.2 x14_3 p269 q269
                                      cases e269
                                      obtain ⟨ce269, hce269, hMe269, hcc269⟩ := Kd.N_get HO_8.out [] x14_3 p269 (by first | exact q269 | exact of_decide_eq_true (by first | (with_reducible assumption) | assumption) | (have e_ := (Kd.N_reads' HO_8.out).1; omega))
                                      obtain ⟨ua269_0, uc269_0, rfl, ul269_0, ge269_0⟩ := Kd.FK_slice_open hMe269
                                      have hv269_0 := hcc269 0 _ rfl
                                      rw [Nat.add_zero, show ((Kd.slice 23 (Kd.int .u64))).sz = 1 from rfl, Nat.mul_one] at hv269_0
                                      replace hv269_0 := Option.some.inj (hv269_0.symm.trans hx269_0)
                                      injection hv269_0 with hva_ hvn_ hvc_
                                      rw [hva_] at ge269_0
                                      rw [hvc_] at ul269_0
                                      have HL269_0 := Aside0.mk (show Kd.V (Kd.int .u64) 23 _ w.heap.size _ _ (rd_L1 x8_1 x14_3) from Kd.V_mk ul269_0 ge269_0)
                                      clear hva_ hvn_ hvc_ ge269_0 ul269_0
                                      clear hcc269 hce269
                                      have HR269_0 := Aside0.mk hi269_0
                                      have HC269_0 := Aside0.mk hl269_0
                                      clear hi269_0 hl269_0
                                      replace p269 := eq_true p269
                                      replace q269 := eq_true q269
                                      have p270 : 0 ≤ (x14_3 : Int) := of_decide_eq_true (by first | (with_reducible assumption) | assumption)
                                      have q270 : x14_3 < (x8_1.length : Int) := of_decide_eq_true (by first | (with_reducible assumption) | assumption)
                                      obtain ⟨ad270, A270_0, c270_0, e270, hx270_0, hl270_0, hi270_0⟩ := at_L1 (Kd.N_reads' HO_8.out).2.2 x14_3 p270 q270
                                      obtain rfl : ad269 = ad270 := (by injection e270)
                                      obtain ⟨ce270, hce270, hMe270, hcc270⟩ := Kd.N_get HO_8.out [] x14_3 p270 (by first | exact q270 | exact of_decide_eq_true (by first | (with_reducible assumption) | assumption) | (have e_ := (Kd.N_reads' HO_8.out).1; omega))
                                      obtain ⟨ua270_0, uc270_0, rfl, ul270_0, ge270_0⟩ := Kd.FK_slice_open hMe270
                                      have hv270_0 := hcc270 0 _ rfl
                                      rw [Nat.add_zero, show ((Kd.slice 23 (Kd.int .u64))).sz = 1 from rfl, Nat.mul_one] at hv270_0
                                      replace hv270_0 := Option.some.inj (hv270_0.symm.trans hx270_0)
                                      injection hv270_0 with hva_ hvn_ hvc_
                                      rw [hva_] at ge270_0
                                      rw [hvc_] at ul270_0
                                      have HL270_0 := Aside0.mk (show Kd.V (Kd.int .u64) 23 _ w.heap.size _ _ (rd_L1 x8_1 x14_3) from Kd.V_mk ul270_0 ge270_0)
                                      clear hva_ hvn_ hvc_ ge270_0 ul270_0
                                      clear hcc270 hce270
                                      have HR270_0 := Aside0.mk hi270_0
                                      have HC270_0 := Aside0.mk hl270_0
                                      clear hi270_0 hl270_0
                                      replace p270 := eq_true p270
                                      replace q270 := eq_true q270
                                      have ea_ := Option.some.inj (hx269_0.symm.trans hx270_0)
                                      injection ea_ with ea_ en_ ec_
                                      subst ea_
                                      subst ec_
                                      clear en_
                                      have p271 : 0 ≤ ((ji36) : Int) := of_decide_eq_true (by first | (with_reducible assumption) | assumption)
                                      have q271 : (ji36) < ((rd_L1 x8_1 x14_3).length : Int) := of_decide_eq_true (by first | (with_reducible assumption) | assumption)
                                      obtain ⟨ad271, e271, hx271_0⟩ := Kd.at_int (by repeat (first | (with_reducible exact HR269_0.out) | (with_reducible refine Kd.C_alloc ?_ _) | (with_reducible refine Kd.C_drewN ?_ _) | (with_reducible refine Kd.C_drew ?_) | exact HR269_0.out)) (ji36) p271 q271
                                      cases e271
                                      replace p271 := eq_true p271
                                      replace q271 := eq_true q271
                                      refine start_ (n := 18) (S := fun w' => w'.cell? (ad269.add (x14_3).toNat) = some (.slice (some ad271) (rd_L1 x8_1 x14_3).length c269_0) ∧ w'.cell? (ad269.add (x14_3).toNat) = some (.slice (some ad271) (rd_L1 x8_1 x14_3).length c269_0) ∧ w'.cell? (ad271.add ((ji36)).toNat) = some (.int .u64 (rd (rd_L1 x8_1 x14_3) (ji36)))) (ds := []) #[false, false, false, false, false, false, false, false, false, false, false, false, false, false, false, false, false, false] (by kernel_rfl) rfl rfl ⟨hx269_0, hx270_0, hx271_0⟩ (fun hHeld => ?_); refine with_tabW chirp_mixed.tab19 chirp_mixed.bits19 (fun HT_ HW_ => ?_)
                                      generalize wr.drew = w40 at HO_8 HO_10 HB HL269_0 HL270_0 HR269_0 HR270_0 hx269_0 hx270_0 hx271_0 hHeld ⊢
                                      refine pure_ (i := 0) (N := some 63) (v := ?_) (a' := ?_) #[true, false, false, false, false, false, false, false, false, false, false, false, false, false, false, false, false, false] rfl rfl (any_of HT_.out (by kernel_rfl)) (fun _ _ _ h => h) (Or.inl ⟨by rfl, ?_⟩) ?_ ?_
                                      rotate_left
                                      · intro w'
                                        go_simp
                                        with_reducible rfl
                                      rotate_left
                                      · simp only [Act.put, List.setIfInBounds_toArray, List.set_cons_zero, List.set_cons_succ, i64_w, i32_w]
                                        rfl
                                      refine pure_ (i := 1) (N := some 64) (v := ?_) (a' := ?_) #[true, true, false, false, false, false, false, false, false, false, false, false, false, false, false, false, false, false] rfl rfl (any_of HT_.out (by kernel_rfl)) (fun _ _ _ h => h) (Or.inl ⟨by rfl, ?_⟩) ?_ ?_
                                      rotate_left
                                      · intro w'
                                        go_simp
                                        with_reducible rfl
                                      rotate_left
                                      · simp only [Act.put, List.setIfInBounds_toArray, List.set_cons_zero, List.set_cons_succ, i64_w, i32_w]
                                        rfl
                                      refine pure_ (i := 3) (N := some 66) (v := ?_) (a' := ?_) #[true, true, false, true, false, false, false, false, false, false, false, false, false, false, false, false, false, false] rfl rfl (any_of HT_.out (by kernel_rfl)) (fun _ _ _ h => h) (Or.inl ⟨by rfl, ?_⟩) ?_ ?_
                                      rotate_left
                                      · intro w'
                                        go_simp
                                        with_reducible rfl
                                      rotate_left
                                      · simp only [Act.put, List.setIfInBounds_toArray, List.set_cons_zero, List.set_cons_succ, i64_w, i32_w]
                                        rfl
                                      refine pure_ (i := 4) (N := some 67) (v := ?_) (a' := ?_) #[true, true, false, true, true, false, false, false, false, false, false, false, false, false, false, false, false, false] rfl rfl (any_of HT_.out (by kernel_rfl)) (fun _ _ _ h => h) (Or.inl ⟨by rfl, ?_⟩) ?_ ?_
                                      rotate_left
                                      · intro w'
                                        go_simp
                                        with_reducible rfl
                                      rotate_left
                                      · simp only [Act.put, List.setIfInBounds_toArray, List.set_cons_zero, List.set_cons_succ, i64_w, i32_w]
                                        rfl
                                      refine pure_ (i := 5) (N := some 68) (v := ?_) (a' := ?_) #[true, true, false, true, true, true, false, false, false, false, false, false, false, false, false, false, false, false] rfl rfl (any_of HT_.out (by kernel_rfl)) (fun _ _ _ h => h) (Or.inl ⟨by rfl, ?_⟩) ?_ ?_
                                      rotate_left
                                      · intro w'
                                        go_simp
                                        with_reducible rfl
                                      rotate_left
                                      · simp only [Act.put, List.setIfInBounds_toArray, List.set_cons_zero, List.set_cons_succ, i64_w, i32_w]
                                        rfl
                                      refine pure_ (i := 7) (N := some 70) (v := ?_) (a' := ?_) #[true, true, false, true, true, true, false, true, false, false, false, false, false, false, false, false, false, false] rfl rfl (any_of HT_.out (by kernel_rfl)) (fun _ _ _ h => h) (Or.inl ⟨by rfl, ?_⟩) ?_ ?_
                                      rotate_left
                                      · intro w'
                                        go_simp
                                        with_reducible rfl
                                      rotate_left
                                      · simp only [Act.put, List.setIfInBounds_toArray, List.set_cons_zero, List.set_cons_succ, i64_w, i32_w]
                                        rfl
                                      refine pure_ (i := 8) (N := some 71) (v := ?_) (a' := ?_) #[true, true, false, true, true, true, false, true, true, false, false, false, false, false, false, false, false, false] rfl rfl (any_of HT_.out (by kernel_rfl)) (fun _ _ _ h => h) (Or.inl ⟨by rfl, ?_⟩) ?_ ?_
                                      rotate_left
                                      · intro w'
                                        go_simp
                                        with_reducible rfl
                                      rotate_left
                                      · simp only [Act.put, List.setIfInBounds_toArray, List.set_cons_zero, List.set_cons_succ, i64_w, i32_w]
                                        rfl
                                      refine pure_ (i := 9) (N := some 72) (v := ?_) (a' := ?_) #[true, true, false, true, true, true, false, true, true, true, false, false, false, false, false, false, false, false] rfl rfl (any_of HT_.out (by kernel_rfl)) (fun _ _ _ h => h) (Or.inl ⟨by rfl, ?_⟩) ?_ ?_
                                      rotate_left
                                      · intro w'
                                        go_simp
                                        with_reducible rfl
                                      rotate_left
                                      · simp only [Act.put, List.setIfInBounds_toArray, List.set_cons_zero, List.set_cons_succ, i64_w, i32_w]
                                        rfl
                                      refine pure_ (i := 10) (N := some 73) (v := ?_) (a' := ?_) #[true, true, false, true, true, true, false, true, true, true, true, false, false, false, false, false, false, false] rfl rfl (any_of HT_.out (by kernel_rfl)) (fun _ _ _ h => h) (Or.inl ⟨by rfl, ?_⟩) ?_ ?_
                                      rotate_left
                                      · intro w'
                                        go_simp
                                        with_reducible rfl
                                      rotate_left
                                      · simp only [Act.put, List.setIfInBounds_toArray, List.set_cons_zero, List.set_cons_succ, i64_w, i32_w]
                                        rfl
                                      refine take_ (i := 6) (N := some 69) (v := ?_) (a' := ?_) #[true, true, false, true, true, true, true, true, true, true, true, false, false, false, false, false, false, false] rfl rfl (take_ofW HT_.out HW_.out (by kernel_rfl)) (fun _ _ _ h => h) (Or.inl ⟨by rfl, ?_⟩) hHeld ?_ ?_
                                      rotate_left
                                      · rintro w' ⟨s0, s1, s2⟩
                                        go_simp
                                        with_reducible rfl
                                      rotate_left
                                      · simp only [Act.put, List.setIfInBounds_toArray, List.set_cons_zero, List.set_cons_succ, i64_w, i32_w]
                                        rfl
                                      refine take_ (i := 11) (N := some 74) (v := ?_) (a' := ?_) #[true, true, false, true, true, true, true, true, true, true, true, true, false, false, false, false, false, false] rfl rfl (take_ofW HT_.out HW_.out (by kernel_rfl)) (fun _ _ _ h => h) (Or.inl ⟨by rfl, ?_⟩) hHeld ?_ ?_
                                      rotate_left
                                      · rintro w' ⟨s0, s1, s2⟩
                                        go_simp
                                        with_reducible rfl
                                      rotate_left
                                      · simp only [Act.put, List.setIfInBounds_toArray, List.set_cons_zero, List.set_cons_succ, i64_w, i32_w]
                                        rfl
                                      refine pure_ (i := 12) (N := some 75) (v := ?_) (a' := ?_) #[true, true, false, true, true, true, true, true, true, true, true, true, true, false, false, false, false, false] rfl rfl (any_of HT_.out (by kernel_rfl)) (fun _ _ _ h => h) (Or.inl ⟨by rfl, ?_⟩) ?_ ?_
                                      rotate_left
                                      · intro w'
                                        go_simp
                                        with_reducible rfl
                                      rotate_left
                                      · simp only [Act.put, List.setIfInBounds_toArray, List.set_cons_zero, List.set_cons_succ, i64_w, i32_w]
                                        rfl
                                      refine pure_ (i := 13) (N := some 76) (v := ?_) (a' := ?_) #[true, true, false, true, true, true, true, true, true, true, true, true, true, true, false, false, false, false] rfl rfl (any_of HT_.out (by kernel_rfl)) (fun _ _ _ h => h) (Or.inl ⟨by rfl, ?_⟩) ?_ ?_
                                      rotate_left
                                      · intro w'
                                        go_simp
                                        with_reducible rfl
                                      rotate_left
                                      · simp only [Act.put, List.setIfInBounds_toArray, List.set_cons_zero, List.set_cons_succ, i64_w, i32_w]
                                        rfl
                                      refine pure_ (i := 14) (N := some 77) (v := ?_) (a' := ?_) #[true, true, false, true, true, true, true, true, true, true, true, true, true, true, true, false, false, false] rfl rfl (any_of HT_.out (by kernel_rfl)) (fun _ _ _ h => h) (Or.inl ⟨by rfl, ?_⟩) ?_ ?_
                                      rotate_left
                                      · intro w'
                                        go_simp
                                        with_reducible rfl
                                      rotate_left
                                      · simp only [Act.put, List.setIfInBounds_toArray, List.set_cons_zero, List.set_cons_succ, i64_w, i32_w]
                                        rfl
                                      refine take_ (i := 15) (N := some 78) (v := ?_) (a' := ?_) #[true, true, false, true, true, true, true, true, true, true, true, true, true, true, true, true, false, false] rfl rfl (take_ofW HT_.out HW_.out (by kernel_rfl)) (fun _ _ _ h => h) (Or.inl ⟨by rfl, ?_⟩) hHeld ?_ ?_
                                      rotate_left
                                      · rintro w' ⟨s0, s1, s2⟩
                                        go_simp
                                        with_reducible rfl
                                      rotate_left
                                      · simp only [Act.put, List.setIfInBounds_toArray, List.set_cons_zero, List.set_cons_succ, i64_w, i32_w]
                                        rfl
                                      refine one_ (i := 2) (N := some 65) #[true, true, true, true, true, true, true, true, true, true, true, true, true, true, true, true, false, false] rfl rfl (one_of HT_.out (by kernel_rfl)) (by decide) (fun K hK => ?_)
                                      refine goes_ Tryd.func40 (by kernel_rfl) rfl #[.int .u64 x13_3, .int .u64 x11_2] (by rfl) rfl rfl (by (try simp only [List.map_toArray, List.map_cons, List.map_nil]); first | done | rfl | (simp only [List.length_drop, List.length_take]; rfl)) ?_
                                      with_reducible refine (gold_Mul.calls x13_3 x11_2 t268 _ A32.out).mono ?_
                                      rintro e w41 ⟨rfl, hb⟩
                                      have HS0_ := (hb.cell (World.block_lt_of_cell? _ _ (hHeld.1))).trans (hHeld.1)
                                      have HS1_ := (hb.cell (World.block_lt_of_cell? _ _ (hHeld.2.1))).trans (hHeld.2.1)
                                      have HS2_ := (hb.cell (World.block_lt_of_cell? _ _ (hHeld.2.2))).trans (hHeld.2.2)
                                      refine ⟨_, rfl, ?_⟩
                                      have n0_ := Aside0.mk (Kd.N_below (by (with_reducible repeat (first | apply Kd.N_alloc | apply Kd.N_drewN | apply Kd.N_drew)); exact HO_8.out) hb)
                                      have n1_ := Aside0.mk (Kd.R_below (by (with_reducible repeat (first | apply Kd.R_alloc | apply Kd.R_drewN | apply Kd.R_drew)); exact HO_10.out) hb)
                                      have n2_ := Aside0.mk (Kd.V_below (by (with_reducible repeat (first | apply Kd.V_alloc | apply Kd.V_drewN | apply Kd.V_drew)); exact HL269_0.out) hb)
                                      have n3_ := Aside0.mk (Kd.V_below (by (with_reducible repeat (first | apply Kd.V_alloc | apply Kd.V_drewN | apply Kd.V_drew)); exact HL270_0.out) hb)
                                      have n4_ := Aside0.mk (Kd.C_below (by repeat (first | (with_reducible exact HR269_0.out) | (with_reducible refine Kd.C_alloc ?_ _) | (with_reducible refine Kd.C_drewN ?_ _) | (with_reducible refine Kd.C_drew ?_) | exact HR269_0.out)) hb)
                                      have n5_ := Aside0.mk (Kd.C_below (by repeat (first | (with_reducible exact HR270_0.out) | (with_reducible refine Kd.C_alloc ?_ _) | (with_reducible refine Kd.C_drewN ?_ _) | (with_reducible refine Kd.C_drew ?_) | exact HR270_0.out)) hb)
                                      have n6_ := Aside0.mk (below_step (by repeat (first | (with_reducible first | exact HB.out | apply below_alloc | apply pw_below_drewN | apply below_drew1) | exact HB.out)) hb)
                                      clear HO_8
                                      clear HO_10
                                      clear HL269_0
                                      clear HL270_0
                                      clear HR269_0
                                      clear HR270_0
                                      clear HB
                                      have HO_8 := n0_
                                      have HO_10 := n1_
                                      have HL269_0 := n2_
                                      have HL270_0 := n3_
                                      have HR269_0 := n4_
                                      have HR270_0 := n5_
                                      have HB := n6_
                                      clear n0_ n1_ n2_ n3_ n4_ n5_ n6_
                                      (try clear hb)
                                      (try clear hb2)
                                      (try clear hk)
                                      (try clear hi)
                                      refine hK.out _ _ ⟨HS0_, HS1_, HS2_⟩ (fun hHeld => ?_)
                                      clear hK K
                                      refine norm_ (a' := ?_) ?_ ?_
                                      rotate_left
                                      · show Act.put _ (some 65) _ = _
                                        simp only [Act.put, List.setIfInBounds_toArray, List.set_cons_zero, List.set_cons_succ, i64_w, i32_w]
                                        rfl
                                      refine one_ (i := 16) (N := some 79) #[true, true, true, true, true, true, true, true, true, true, true, true, true, true, true, true, true, false] rfl rfl (one_of HT_.out (by kernel_rfl)) (by decide) (fun K hK => ?_)
                                      refine goes_ Tryd.func43 (by kernel_rfl) rfl #[.int .u64 t268, .int .u64 (rd (rd_L1 x8_1 x14_3) (ji36))] (by rfl) rfl rfl (by (try simp only [List.map_toArray, List.map_cons, List.map_nil]); first | done | (simp only [hji36]; rfl) | rfl | (simp only [List.length_drop, List.length_take]; rfl)) ?_
                                      with_reducible refine (gold_Add.calls t268 (rd (rd_L1 x8_1 x14_3) (ji36)) t272 _ A39.out).mono ?_
                                      rintro e w42 ⟨rfl, hb⟩
                                      have HS0_ := (hb.cell (World.block_lt_of_cell? _ _ (hHeld.1))).trans (hHeld.1)
                                      have HS1_ := (hb.cell (World.block_lt_of_cell? _ _ (hHeld.2.1))).trans (hHeld.2.1)
                                      have HS2_ := (hb.cell (World.block_lt_of_cell? _ _ (hHeld.2.2))).trans (hHeld.2.2)
                                      refine ⟨_, rfl, ?_⟩
                                      have n0_ := Aside0.mk (Kd.N_below (by (with_reducible repeat (first | apply Kd.N_alloc | apply Kd.N_drewN | apply Kd.N_drew)); exact HO_8.out) hb)
                                      have n1_ := Aside0.mk (Kd.R_below (by (with_reducible repeat (first | apply Kd.R_alloc | apply Kd.R_drewN | apply Kd.R_drew)); exact HO_10.out) hb)
                                      have n2_ := Aside0.mk (Kd.V_below (by (with_reducible repeat (first | apply Kd.V_alloc | apply Kd.V_drewN | apply Kd.V_drew)); exact HL269_0.out) hb)
                                      have n3_ := Aside0.mk (Kd.V_below (by (with_reducible repeat (first | apply Kd.V_alloc | apply Kd.V_drewN | apply Kd.V_drew)); exact HL270_0.out) hb)
                                      have n4_ := Aside0.mk (Kd.C_below (by repeat (first | (with_reducible exact HR269_0.out) | (with_reducible refine Kd.C_alloc ?_ _) | (with_reducible refine Kd.C_drewN ?_ _) | (with_reducible refine Kd.C_drew ?_) | exact HR269_0.out)) hb)
                                      have n5_ := Aside0.mk (Kd.C_below (by repeat (first | (with_reducible exact HR270_0.out) | (with_reducible refine Kd.C_alloc ?_ _) | (with_reducible refine Kd.C_drewN ?_ _) | (with_reducible refine Kd.C_drew ?_) | exact HR270_0.out)) hb)
                                      have n6_ := Aside0.mk (below_step (by repeat (first | (with_reducible first | exact HB.out | apply below_alloc | apply pw_below_drewN | apply below_drew1) | exact HB.out)) hb)
                                      clear HO_8
                                      clear HO_10
                                      clear HL269_0
                                      clear HL270_0
                                      clear HR269_0
                                      clear HR270_0
                                      clear HB
                                      have HO_8 := n0_
                                      have HO_10 := n1_
                                      have HL269_0 := n2_
                                      have HL270_0 := n3_
                                      have HR269_0 := n4_
                                      have HR270_0 := n5_
                                      have HB := n6_
                                      clear n0_ n1_ n2_ n3_ n4_ n5_ n6_
                                      (try clear hb)
                                      (try clear hb2)
                                      (try clear hk)
                                      (try clear hi)
                                      refine hK.out _ _ ⟨HS0_, HS1_, HS2_⟩ (fun hHeld => ?_)
                                      clear hK K
                                      refine norm_ (a' := ?_) ?_ ?_
                                      rotate_left
                                      · show Act.put _ (some 79) _ = _
                                        simp only [Act.put, List.setIfInBounds_toArray, List.set_cons_zero, List.set_cons_succ, i64_w, i32_w]
                                        rfl
                                      refine pure_ (i := 17) (N := some 13) (v := ?_) (a' := ?_) #[true, true, true, true, true, true, true, true, true, true, true, true, true, true, true, true, true, true] rfl rfl (any_of HT_.out (by kernel_rfl)) (fun _ _ _ h => h) (Or.inl ⟨by rfl, ?_⟩) ?_ ?_
                                      rotate_left
                                      · intro w'
                                        go_simp
                                        with_reducible rfl
                                      rotate_left
                                      · simp only [Act.put, List.setIfInBounds_toArray, List.set_cons_zero, List.set_cons_succ, i64_w, i32_w]
                                        rfl
                                      refine done_ (done_of HT_.out (by kernel_rfl)) ?_
                                      try go_wp2
                                      (first | go_roundg k3 | (simp only [add_plain] at *; go_roundg k3))
                                      case measure => have := HK1.out; have := HK2.out; have := HK3.out; omega
                                      case rel => exact ⟨(t272), (wrap64 (x14_3 - 1)), (by first | rfl | (simp; done) | (simp [*]; done)), (by first | rfl | (simp; done) | (simp [*]; done)), H', ⟨by have := HK1.out; have := HK2.out; have := HK3.out; omega⟩, ⟨by (try simp only [hl8_1]); (try simp only [hl10_2]); (with_reducible repeat (first | apply Kd.N_alloc | apply Kd.N_drewN | apply Kd.N_drew)); exact HO_8.out⟩, ⟨by (try simp only [hl8_1]); (try simp only [hl10_2]); (with_reducible repeat (first | apply Kd.R_alloc | apply Kd.R_drewN | apply Kd.R_drew)); exact HO_10.out⟩, ⟨by repeat (first | (with_reducible first | exact HB.out | apply below_alloc | apply pw_below_drewN | apply below_drew1) | exact HB.out)⟩⟩
                                    · rw [if_neg c38] at H
                                      exact absurd H (by simp)
                                  · rw [if_neg c37] at H
                                    exact absurd H (by simp)
                              · rw [if_neg c34] at H
                                exact absurd H (by simp)
                            · rw [if_neg c33] at H
                              exact absurd H (by simp)
                          · rw [if_neg c31] at H
                            have c31b0 : decide (0 ≤ x14_3) = false := decide_eq_false c31
                            clear c31
                            by_cases c43 : 0 ≤ x54_2
                            · rw [if_pos c43] at H
                              have c43b0 : decide (0 ≤ x54_2) = true := decide_eq_true c43
                              clear c43
                              by_cases c44 : x54_2 < (x10_2.length : Int)
                              · rw [if_pos c44] at H
                                have c44b0 : decide (x54_2 < (x10_2.length : Int)) = true := decide_eq_true c44
                                (try (have c44b0_0 := c44b0; simp only [hl8_1] at c44b0_0))
                                (try (have c44b0_1 := c44b0; rw [LTc25.out] at c44b0_1))
                                (try (have c44b0_1p := eq_true (of_decide_eq_true c44b0_1)))
                                (try (have c44b0_2 := c44b0; rw [LDc25.out] at c44b0_2))
                                (try (have c44b0_2p := eq_true (of_decide_eq_true c44b0_2)))
                                (try (have c44b0_3 := c44b0; simp only [hl10_2] at c44b0_3))
                                clear c44
                                obtain ⟨y273, hy273⟩ : ∃ y_ : List Int, y_ = (x10_2.set (x54_2 : Int).toNat x13_3) := ⟨_, rfl⟩
                                replace H : ((gold_Mul.f x11_2 a1).bind fun t274 => (chirp_mixed.l1 k3 a1 (rd l2 0) x8_1 y273 t274 (y265.length : Int) (wrap64 (x54_2 + 1)))) = some r := by first | (rw [hy273]; with_reducible exact H) | (have H2_ := (Option.bind_some _ _).symm.trans H; rw [hy273]; with_reducible exact H2_) | (have H2_ := (Option.bind_some _ _).symm.trans H; with_reducible exact H2_) | with_reducible exact H | (rw [hy273]; exact H) | exact H
                                have Ny273 := Aside0.mk hy273
                                clear hy273
                                replace H := Option.bind_eq_some_iff.mp H
                                obtain ⟨t274, A460, H⟩ := H
                                replace H : (chirp_mixed.l1 k3 a1 (rd l2 0) x8_1 y273 t274 (y265.length : Int) (wrap64 (x54_2 + 1))) = some r := H
                                have A46 := Aside0.mk A460
                                clear A460
                                have H' := Aside0.mk H
                                clear H
                                have p45 : 0 ≤ (x54_2 : Int) := of_decide_eq_true (by first | (with_reducible assumption) | assumption)
                                have q45 : (x54_2 : Int) < ((x10_2.length : Int) : Int) := of_decide_eq_true (by first | (with_reducible assumption) | assumption)
                                obtain ⟨go45, co45, eo45, gb45, gl45, cl45, HG45⟩ := Kd.R_form HO_10.out (by omega)
                                (first | cases eo45 | (injection eo45 with ea_ en_ ec_; (first | subst ea_ | (injection ea_ with ea_; subst ea_)); subst ec_; clear en_))
                                have GB45 := Aside0.mk gb45
                                have GG45 := Aside0.mk HG45
                                clear gb45 gl45 HG45
                                obtain ⟨hx45_0, hf45_0⟩ := Kd.R_celln 0 HO_10.out (x54_2 : Int) p45 q45
                                replace p45 := eq_true p45
                                replace q45 := eq_true q45
                                have HP47 := Kd.R_putg HO_10.out (x54_2 : Int) x13_3
                                go_wp2_with (first | ((with_reducible refine gate_store (t := 23) (p := 83) rfl ?_); refine store_event (t := 23) (p := 83) (v := ?vo_w48) (w1 := (wr.setCell ⟨go45, (x54_2 : Int).toNat, none⟩ (.int .u64 x13_3))) ?hg ?ho ?hn ?hr ?_; (case ho => rfl); (case hg => rfl); (case hn => rfl); (case hr => first | (go_simp; done) | (go_simp; rfl)); intro w48 hw; have hg : wr.grownBy w48 (some go45) := (by rw [hw]; exact HP47.2); have hp_ : Kd.R (Kd.int .u64) 23 w48 w.heap.size (fun _ => True) (.slice (some ⟨go45, 0, none⟩) x10_2.length co29) y273 := (by rw [hw, Ny273.out]; exact HP47.1); clear HP47; have n0_ := Aside0.mk (Kd.N_afterv (v := (.slice (some ⟨go45, 0, none⟩) x10_2.length co29)) (v1 := (.slice (some ⟨go45, 0, none⟩) x10_2.length co29)) (ok := (fun _ => True)) (by (with_reducible repeat (first | apply Kd.N_alloc | apply Kd.N_drewN | apply Kd.N_drew)); exact Kd.N_mono HO_8.out (fun _ hk => ⟨trivial, hk⟩)) hg (.inl rfl)); have n1_ := Aside0.mk (hp_); have n2_ := Aside0.mk ((by rw [hw]; exact below_set (HB.out) GB45.out : Below w.heap.size w w48)); clear HO_8; clear HO_10; clear HB; have HO_8 := n0_; have HO_10 := n1_; have HB := n2_; clear n0_ n1_ n2_; clear hg hw hp_) | ((with_reducible refine gate_callee (f := 40) rfl ?_); refine goesL_ (some 86) rfl rfl Tryd.func40 (by kernel_rfl) rfl #[.int .u64 x11_2, .int .u64 a1] rfl (by (try simp only [List.map_toArray, List.map_cons, List.map_nil]); first | done | rfl | (simp only [List.length_drop, List.length_take]; rfl)) ?_; (with_reducible refine (gold_Mul.calls x11_2 a1 t274 _ A46.out).mono ?_); rintro e w49 ⟨rfl, hb⟩; refine ⟨_, rfl, ?_⟩; have n0_ := Aside0.mk (Kd.N_below (by (with_reducible repeat (first | apply Kd.N_alloc | apply Kd.N_drewN | apply Kd.N_drew)); exact HO_8.out) hb); have n1_ := Aside0.mk (Kd.R_below (by (with_reducible repeat (first | apply Kd.R_alloc | apply Kd.R_drewN | apply Kd.R_drew)); exact HO_10.out) hb); have n2_ := Aside0.mk (below_step (by repeat (first | (with_reducible first | exact HB.out | apply below_alloc | apply pw_below_drewN | apply below_drew1) | exact HB.out)) hb); clear HO_8; clear HO_10; clear HB; have HO_8 := n0_; have HO_10 := n1_; have HB := n2_; clear n0_ n1_ n2_; (try clear hb); (try clear hb2); (try clear hk); (try clear hi)) | (go_at_call 40; (with_reducible refine (gold_Mul.calls x11_2 a1 t274 _ A46.out).mono ?_); rintro e w49 ⟨rfl, hb⟩; have n0_ := Aside0.mk (Kd.N_below (by (with_reducible repeat (first | apply Kd.N_alloc | apply Kd.N_drewN | apply Kd.N_drew)); exact HO_8.out) hb); have n1_ := Aside0.mk (Kd.R_below (by (with_reducible repeat (first | apply Kd.R_alloc | apply Kd.R_drewN | apply Kd.R_drew)); exact HO_10.out) hb); have n2_ := Aside0.mk (below_step (by repeat (first | (with_reducible first | exact HB.out | apply below_alloc | apply pw_below_drewN | apply below_drew1) | exact HB.out)) hb); clear HO_8; clear HO_10; clear HB; have HO_8 := n0_; have HO_10 := n1_; have HB := n2_; clear n0_ n1_ n2_; (try clear hb); (try clear hb2); (try clear hk); (try clear hi)))
                                (try simp only [← hl10_2])
                                (first | go_roundg k3 | (simp only [add_plain] at *; go_roundg k3))
                                case measure => have := HK1.out; have := HK2.out; have := HK3.out; omega
                                case rel => exact ⟨(y273), (t274), (wrap64 (x54_2 + 1)), (by first | rfl | (simp; done) | (simp [*]; done)), (by first | rfl | (simp; done) | (simp [*]; done)), H', ⟨by have := HK1.out; have := HK2.out; have := HK3.out; omega⟩, ⟨by (try simp only [hl8_1]); (try simp only [hl10_2]); (with_reducible repeat (first | apply Kd.N_alloc | apply Kd.N_drewN | apply Kd.N_drew)); exact Kd.N_mono HO_8.out (fun _ hk => hk.2)⟩, ⟨by (try simp only [hl8_1]); (try simp only [hl10_2]); (with_reducible repeat (first | apply Kd.R_alloc | apply Kd.R_drewN | apply Kd.R_drew)); exact HO_10.out⟩, ⟨by repeat (first | (with_reducible first | exact HB.out | apply below_alloc | apply pw_below_drewN | apply below_drew1) | exact HB.out)⟩⟩
                              · rw [if_neg c44] at H
                                exact absurd H (by simp)
                            · rw [if_neg c43] at H
                              exact absurd H (by simp)
                    · rw [if_neg c30] at H
                      have c30b0 : decide (x54_2 < (y265.length : Int)) = false := decide_eq_false c30
                      (try (have c30b0_0 := c30b0; simp only [hl8_1] at c30b0_0))
                      (try (have c30b0_1 := c30b0; rw [LTc25.out] at c30b0_1))
                      (try (have c30b0_2 := c30b0; rw [LDc25.out] at c30b0_2))
                      (try (have c30b0_3 := c30b0; simp only [hl10_2] at c30b0_3))
                      clear c30
                      obtain rfl := Option.some.inj H
                      go_wp2
                      go_ret
                      exact ⟨_, by first | rfl | (simp [errW_none, errW_some] <;> rfl) | (simp [*, errW_none, errW_some] <;> rfl), by (with_reducible repeat (first | apply Kd.R_alloc | apply Kd.R_drewN | apply Kd.R_drew)); exact HO_10.out, by repeat (first | (with_reducible first | exact HB.out | apply below_alloc | apply pw_below_drewN | apply below_drew1) | exact HB.out)⟩
              · rw [if_neg c26] at H
                exact absurd H (by simp)
            · rw [if_neg c25] at H
              exact absurd H (by simp)
    · rw [if_neg c9] at H
      exact absurd H (by simp)

end Go.Proofs.YtnmjomcpkckihaaDoor.PChirpRuns
