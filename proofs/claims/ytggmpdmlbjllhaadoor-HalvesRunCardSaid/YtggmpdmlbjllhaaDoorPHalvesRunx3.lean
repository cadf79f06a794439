-- Written for this claim by wip/gen/mk.sh, this session's own driver over the kit's print
import Derived.Test.YtggmpdmlbjllhaaDoorPHalvesRunx0
import Derived.Test.YtggmpdmlbjllhaaDoorPHalvesRunx1
import Derived.Test.YtggmpdmlbjllhaaDoorPHalvesRunx2
namespace Go.Proofs.YtggmpdmlbjllhaaDoor.PHalvesRun
open Go.RowKit Go.Proofs.YtggmpdmlbjllhaaDoorW.PrintWords Go.Proofs.YtggmpdmlbjllhaaDoorW.PrintLast Go.Proofs.YtggmpdmlbjllhaaDoorW.PrintMore
attribute [local go_sem] max2_int min2_int max_two min_two max_three min_three max_four min_four   -- for this text's walks alone
set_option linter.unusedVariables false
set_option linter.unusedSimpArgs false

/-! ### kern2_stage: function 47 -/
mutual
def kern2_stage.l0 : Nat → List Int → List Int → Int → Int → Int → Option (List Int)
  | 0, _, _, _, _, _ => none
  | k + 1, x0, x1, x2, x6, x7 => if x7 < (x0.length : Int) then (kern2_stage.l1 k x0 x1 x2 x6 x7 x2 0) else (some x0)
def kern2_stage.l1 : Nat → List Int → List Int → Int → Int → Int → Int → Int → Option (List Int)
  | 0, _, _, _, _, _, _, _ => none
  | k + 1, x0, x1, x2, x6, x7, x24, x25 => if x25 < x24 then (if 0 ≤ (wrap64 (x7 + x25)) then (if (wrap64 (x7 + x25)) < (x0.length : Int) then (if 0 ≤ (wrap64 ((wrap64 (x7 + x25)) + x2)) then (if (wrap64 ((wrap64 (x7 + x25)) + x2)) < (x0.length : Int) then (if 0 ≤ (wrap64 (x25 * x6)) then (if (wrap64 (x25 * x6)) < (x1.length : Int) then ((kern2_Butterfly.f (rd x0 (wrap64 (x7 + x25))) (rd x0 (wrap64 ((wrap64 (x7 + x25)) + x2))) (rd x1 (wrap64 (x25 * x6)))).bind fun bt168 => (kern2_stage.l1 k ((x0.set ((wrap64 (x7 + x25)) : Int).toNat bt168.1).set ((wrap64 ((wrap64 (x7 + x25)) + x2)) : Int).toNat bt168.2) x1 x2 x6 x7 x24 (wrap64 (x25 + 1)))) else (none)) else (none)) else (none)) else (none)) else (none)) else (none)) else (kern2_stage.l0 k x0 x1 x2 x6 (wrap64 (x7 + (wrap64 (2 * x2)))))
end
def kern2_stage.f (k : Nat) (l0 : List Int) (l1 : List Int) (a2 : Int) : Option (List Int) := if (wrap64 (2 * a2)) = 0 then (none) else (kern2_stage.l0 k l0 l1 a2 (wrap64 ((l0.length : Int) / (wrap64 (2 * a2)))) 0)
theorem kern2_stage.mono_l : ∀ k, (∀ y0 y1 y2 y3 y4, LeO (kern2_stage.l0 k y0 y1 y2 y3 y4) (kern2_stage.l0 (k + 1) y0 y1 y2 y3 y4)) ∧ (∀ y0 y1 y2 y3 y4 y5 y6, LeO (kern2_stage.l1 k y0 y1 y2 y3 y4 y5 y6) (kern2_stage.l1 (k + 1) y0 y1 y2 y3 y4 y5 y6))
  | 0 => ⟨fun _ _ _ _ _ r h => by simp [kern2_stage.l0] at h, fun _ _ _ _ _ _ _ r h => by simp [kern2_stage.l1] at h⟩
  | k + 1 => by
    obtain ⟨ih0, ih1⟩ := kern2_stage.mono_l k
    refine ⟨?_, ?_⟩
    · intro y0 y1 y2 y3 y4
      unfold kern2_stage.l0
      repeat' first
      | (with_reducible exact ih0 _ _ _ _ _)
      | (with_reducible exact ih1 _ _ _ _ _ _ _)
      | (with_reducible exact LeO.refl _)
      | (with_reducible exact LeO.none _)
      | (with_reducible refine LeO.ite ?_ ?_)
      | (with_reducible refine LeO.bind ?_ (fun _ => ?_))
      | exact ih0 _ _ _ _ _
      | exact ih1 _ _ _ _ _ _ _
      | exact LeO.none _
      | refine LeO.ite ?_ ?_
      | refine LeO.bind ?_ (fun _ => ?_)
    · intro y0 y1 y2 y3 y4 y5 y6
      unfold kern2_stage.l1
      repeat' first
      | (with_reducible exact ih0 _ _ _ _ _)
      | (with_reducible exact ih1 _ _ _ _ _ _ _)
      | (with_reducible exact LeO.refl _)
      | (with_reducible exact LeO.none _)
      | (with_reducible refine LeO.ite ?_ ?_)
      | (with_reducible refine LeO.bind ?_ (fun _ => ?_))
      | exact ih0 _ _ _ _ _
      | exact ih1 _ _ _ _ _ _ _
      | exact LeO.none _
      | refine LeO.ite ?_ ?_
      | refine LeO.bind ?_ (fun _ => ?_)
theorem kern2_stage.mono : ∀ a0 a1 a2 k, LeO (kern2_stage.f k a0 a1 a2) (kern2_stage.f (k + 1) a0 a1 a2) := by
  intro a0 a1 a2 k
  obtain ⟨ih0, ih1⟩ := kern2_stage.mono_l k
  unfold kern2_stage.f
  repeat' first
      | (with_reducible exact ih0 _ _ _ _ _)
      | (with_reducible exact ih1 _ _ _ _ _ _ _)
      | (with_reducible exact LeO.refl _)
      | (with_reducible exact LeO.none _)
      | (with_reducible refine LeO.ite ?_ ?_)
      | (with_reducible refine LeO.bind ?_ (fun _ => ?_))
      | exact ih0 _ _ _ _ _
      | exact ih1 _ _ _ _ _ _ _
      | exact LeO.none _
      | refine LeO.ite ?_ ?_
      | refine LeO.bind ?_ (fun _ => ?_)
def kern2_stage.T8 : Bool × List (List Nat × List Nat) := (true, [([], []), ([], []), ([], []), ([], []), ([], []), ([], []), ([4, 5], [4, 5]), ([6], [6]), ([], []), ([], []), ([8, 9], [8, 9]), ([10], [10]), ([], []), ([], []), ([], []), ([13, 14], [13, 14]), ([12, 15], [12, 15]), ([16], [16]), ([7, 11, 17], [7, 11, 17]), ([18], [18]), ([19], [19]), ([19], [19]), ([0, 1, 0, 1, 4, 5, 6, 7, 8, 9, 10, 11, 12, 13, 14, 15, 16, 17, 18, 19, 20], [0, 1]), ([22, 20, 18, 0, 1, 4, 5, 6, 7, 8, 9, 10, 11, 12, 13, 14, 15, 16, 17, 18, 19, 20], [20, 22]), ([2, 3, 0, 1, 2, 3, 4, 5, 6, 7, 8, 9, 10, 11, 12, 13, 14, 15, 16, 17, 18, 19, 20, 21, 22, 23], [2, 3]), ([24, 21, 23, 0, 1, 2, 3, 4, 5, 6, 7, 8, 9, 10, 11, 12, 13, 14, 15, 16, 17, 18, 19, 20, 21, 22, 23], [21, 24])])
def kern2_stage.B8 : List Nat := [0, 0, 0, 0, 0, 0, 48, 112, 0, 0, 768, 1792, 0, 0, 0, 24576, 61440, 126976, 262128, 524272, 1048560, 1048560, 2097139, 6291443, 16777215, 33554431]
theorem kern2_stage.tab8 : rtab .any (opsOf Tryd.f47 8) = kern2_stage.T8 := by kernel_rfl
theorem kern2_stage.bits8 : waitsOk kern2_stage.T8.2 kern2_stage.B8 = true := by kernel_rfl
set_option maxHeartbeats 8000000 in
set_option maxRecDepth 100000 in
theorem kern2_stage.calls (k : Nat) (P0_ : Nat → Prop) (u9000_ : Value) (l0 : List Int) (A1 : Option Addr) (c1 : Nat) (l1 : List Int) (a2 : Int) (r : List Int) (w0 w : World) (hB : Below w0.heap.size w0 w) (ho0 : Kd.R (Kd.int .u64) 32 w w0.heap.size P0_ u9000_ l0) (hr1 : ∀ W_, Kept w W_ (fun k_ => P0_ k_) → Kd.C (Kd.int .u64) W_ A1 l1.length l1) (hc1 : l1.length ≤ c1) (h : kern2_stage.f k l0 l1 a2 = some r) :
    Calls Tryd.prog 47 #[u9000_, .slice A1 l1.length c1, .int .i64 a2] w fun e w' => e = .returned (.tuple #[]) ∧ Kd.R (Kd.int .u64) 32 w' w0.heap.size (fun k_ => (P0_ k_ ∨ w.heap.size ≤ k_)) u9000_ r ∧ Below w0.heap.size w0 w' ∧ Kept w w' (fun k_ => P0_ k_) := by
  have HO0 := Aside0.mk (show Kd.R (Kd.int .u64) 32 w w0.heap.size (fun k_ => (P0_ k_ ∨ w.heap.size ≤ k_)) u9000_ l0 from Kd.R_mono ho0 (fun k_ hk => (.inl hk)))
  have HR1 := Aside0.mk hr1
  have HC1 := Aside0.mk hc1
  clear hr1 hc1
  have HK := Aside0.mk (Kept.refl w (fun k_ => P0_ k_))
  have HW0 := Aside0.mk hB.size
  have HB := Aside0.mk hB
  clear hB
  have H : (if (wrap64 (2 * a2)) = 0 then (none) else (kern2_stage.l0 k l0 l1 a2 (wrap64 ((l0.length : Int) / (wrap64 (2 * a2)))) 0)) = some r := h
  clear h
  by_cases c4 : (wrap64 (2 * a2)) = 0
  · rw [if_pos c4] at H
    exact absurd H (by simp)
  · rw [if_neg c4] at H
    have c4b0 : ((wrap64 (2 * a2)) == 0) = false := beq_eq_false_iff_ne.mpr c4
    have c4b1 : ((wrap64 (2 * a2)) != 0) = true := bne_iff_ne.mpr c4
    have H' := Aside0.mk H
    clear H
    obtain ⟨Ao5, co5, eo5⟩ := Kd.R_slice HO0.out
    subst eo5
    go_enter Tryd.func47, Tryd.ntmps47
    go_wp2
    go_loopg [7] k (fun kq v7 w' => ∃ (x0_1 : List Int) (x7_1 : Int), v7 = .int .i64 x7_1 ∧ Aside0 (kern2_stage.l0 kq x0_1 l1 a2 (wrap64 ((l0.length : Int) / (wrap64 (2 * a2)))) x7_1 = some r) ∧ Aside0 (kq ≤ k) ∧ Aside0 (Kd.R (Kd.int .u64) 32 w' w0.heap.size (fun k_ => (P0_ k_ ∨ w.heap.size ≤ k_)) (.slice Ao5 l0.length co5) x0_1) ∧ Aside0 (Kept w w' (fun k_ => P0_ k_)) ∧ Aside0 (Below w0.heap.size w0 w'))
    case atStart => exact ⟨(l0), (0), (by first | rfl | (simp; done) | (simp [*]; done)), H', ⟨Nat.le_refl _⟩, ⟨by (with_reducible repeat (first | apply Kd.R_alloc | apply Kd.R_drewN | apply Kd.R_drew)); exact HO0.out⟩, ⟨by repeat (first | (with_reducible first | exact HK.out | apply Kept.alloc | apply Kept.drewN | apply Kept.drew) | exact HK.out)⟩, ⟨by repeat (first | (with_reducible first | exact HB.out | apply below_alloc | apply pw_below_drewN | apply below_drew1) | exact HB.out)⟩⟩
    case round =>
      clear H'
      try clear c1
      try clear p2
      try clear c4
      try clear c4b0
      try clear c4b1
      obtain ⟨x0_1, x7_1, rfl, HA, HK1, HO_0, HK, HB⟩ := hrel
      have hl0_1 := (Kd.R_reads' HO_0.out).1
      rw [hl0_1] at HO_0
      (try simp only [hl0_1])
      cases gk with
      | zero => exact absurd HA.out (by simp [kern2_stage.l0])
      | succ k1 =>
        have H := HA.out
        clear HA
        simp only [kern2_stage.l0] at H
        by_cases c6 : x7_1 < (x0_1.length : Int)
        · rw [if_pos c6] at H
          have c6b0 : decide (x7_1 < (x0_1.length : Int)) = true := decide_eq_true c6
          (try (have c6b0_0 := c6b0; simp only [hl0_1] at c6b0_0))
          clear c6
          have H' := Aside0.mk H
          clear H
          go_wp2
          go_loopg [25] k1 (fun kq v25 w' => ∃ (x0_2 : List Int) (x25_2 : Int), v25 = .int .i64 x25_2 ∧ Aside0 (kern2_stage.l1 kq x0_2 l1 a2 (wrap64 ((l0.length : Int) / (wrap64 (2 * a2)))) x7_1 a2 x25_2 = some r) ∧ Aside0 (kq ≤ k1) ∧ Aside0 (Kd.R (Kd.int .u64) 32 w' w0.heap.size (fun k_ => (P0_ k_ ∨ w.heap.size ≤ k_)) (.slice Ao5 x0_1.length co5) x0_2) ∧ Aside0 (Kept w w' (fun k_ => P0_ k_)) ∧ Aside0 (Below w0.heap.size w0 w'))
          case atStart => exact ⟨(x0_1), (0), (by first | rfl | (simp; done) | (simp [*]; done)), H', ⟨Nat.le_refl _⟩, ⟨by (try simp only [hl0_1]); (with_reducible repeat (first | apply Kd.R_alloc | apply Kd.R_drewN | apply Kd.R_drew)); exact HO_0.out⟩, ⟨by repeat (first | (with_reducible first | exact HK.out | apply Kept.alloc | apply Kept.drewN | apply Kept.drew) | exact HK.out)⟩, ⟨by repeat (first | (with_reducible first | exact HB.out | apply below_alloc | apply pw_below_drewN | apply below_drew1) | exact HB.out)⟩⟩
          case round =>
            clear H'
            try clear c1
            try clear p2
            try clear c4
            try clear c4b0
            try clear c4b1
            try clear c6
            try clear c6b0
            try clear p6
            try clear p2
            obtain ⟨x0_2, x25_2, rfl, HA, HK2, HO_0, HK, HB⟩ := hrel
            have hl0_2 := (Kd.R_reads' HO_0.out).1
            rw [hl0_2] at HO_0
            (try simp only [hl0_2])
            cases gk with
            | zero => exact absurd HA.out (by simp [kern2_stage.l1])
            | succ k2 =>
              have H := HA.out
              clear HA
              simp only [kern2_stage.l1] at H
              by_cases c7 : x25_2 < a2
              · rw [if_pos c7] at H
                have c7b0 : decide (x25_2 < a2) = true := decide_eq_true c7
                clear c7
                obtain ⟨ji8, hji8⟩ : ∃ j_ : Int, (wrap64 (x7_1 + x25_2)) = j_ := ⟨_, rfl⟩
                (try (have hji8w : (IntKind.i64.wrap (x7_1 + x25_2)) = ji8 := by simpa only [i64_w] using hji8))
                replace H : (if 0 ≤ (ji8) then (if (ji8) < (x0_2.length : Int) then (if 0 ≤ (wrap64 ((ji8) + a2)) then (if (wrap64 ((ji8) + a2)) < (x0_2.length : Int) then (if 0 ≤ (wrap64 (x25_2 * (wrap64 ((l0.length : Int) / (wrap64 (2 * a2)))))) then (if (wrap64 (x25_2 * (wrap64 ((l0.length : Int) / (wrap64 (2 * a2)))))) < (l1.length : Int) then ((kern2_Butterfly.f (rd x0_2 (ji8)) (rd x0_2 (wrap64 ((ji8) + a2))) (rd l1 (wrap64 (x25_2 * (wrap64 ((l0.length : Int) / (wrap64 (2 * a2)))))))).bind fun bt168 => (kern2_stage.l1 k2 ((x0_2.set ((ji8) : Int).toNat bt168.1).set ((wrap64 ((ji8) + a2)) : Int).toNat bt168.2) l1 a2 (wrap64 ((l0.length : Int) / (wrap64 (2 * a2)))) x7_1 a2 (wrap64 (x25_2 + 1)))) else (none)) else (none)) else (none)) else (none)) else (none)) else (none)) = some r := by first | (rw [hji8] at H; exact H) | (simp only [hji8] at H ⊢; exact H)
                have hji8w : (IntKind.i64.wrap (x7_1 + x25_2)) = ji8 := (i64_w _).trans hji8
                by_cases c9 : 0 ≤ (ji8)
                · rw [if_pos c9] at H
                  have c9b0 : decide (0 ≤ (ji8)) = true := decide_eq_true c9
                  clear c9
                  by_cases c10 : (ji8) < (x0_2.length : Int)
                  · rw [if_pos c10] at H
                    have c10b0 : decide ((ji8) < (x0_2.length : Int)) = true := decide_eq_true c10
                    (try (have c10b0_0 := c10b0; simp only [hl0_1] at c10b0_0))
                    (try (have c10b0_1 := c10b0; simp only [hl0_2] at c10b0_1))
                    clear c10
                    obtain ⟨ji11, hji11⟩ : ∃ j_ : Int, (wrap64 ((ji8) + a2)) = j_ := ⟨_, rfl⟩
                    (try (have hji11w : (IntKind.i64.wrap ((ji8) + a2)) = ji11 := by simpa only [i64_w] using hji11))
                    replace H : (if 0 ≤ (ji11) then (if (ji11) < (x0_2.length : Int) then (if 0 ≤ (wrap64 (x25_2 * (wrap64 ((l0.length : Int) / (wrap64 (2 * a2)))))) then (if (wrap64 (x25_2 * (wrap64 ((l0.length : Int) / (wrap64 (2 * a2)))))) < (l1.length : Int) then ((kern2_Butterfly.f (rd x0_2 (ji8)) (rd x0_2 (ji11)) (rd l1 (wrap64 (x25_2 * (wrap64 ((l0.length : Int) / (wrap64 (2 * a2)))))))).bind fun bt168 => (kern2_stage.l1 k2 ((x0_2.set ((ji8) : Int).toNat bt168.1).set ((ji11) : Int).toNat bt168.2) l1 a2 (wrap64 ((l0.length : Int) / (wrap64 (2 * a2)))) x7_1 a2 (wrap64 (x25_2 + 1)))) else (none)) else (none)) else (none)) else (none)) = some r := by first | (rw [hji11] at H; exact H) | (simp only [hji11] at H ⊢; exact H)
                    have hji11w : (IntKind.i64.wrap ((ji8) + a2)) = ji11 := (i64_w _).trans hji11
                    by_cases c12 : 0 ≤ (ji11)
                    · rw [if_pos c12] at H
                      have c12b0 : decide (0 ≤ (ji11)) = true := decide_eq_true c12
                      clear c12
                      by_cases c13 : (ji11) < (x0_2.length : Int)
                      · rw [if_pos c13] at H
                        have c13b0 : decide ((ji11) < (x0_2.length : Int)) = true := decide_eq_true c13
                        (try (have c13b0_0 := c13b0; simp only [hl0_1] at c13b0_0))
                        (try (have c13b0_1 := c13b0; simp only [hl0_2] at c13b0_1))
                        clear c13
                        obtain ⟨ji14, hji14⟩ : ∃ j_ : Int, (wrap64 (x25_2 * (wrap64 ((l0.length : Int) / (wrap64 (2 * a2)))))) = j_ := ⟨_, rfl⟩
                        (try (have hji14l := hji14; simp only [hl0_1, hl0_2] at hji14l; (try (have hji14lw := hji14l; simp only [← i64_w] at hji14lw))))
                        (try (have hji14w : (IntKind.i64.wrap (x25_2 * (IntKind.i64.wrap ((l0.length : Int) / (IntKind.i64.wrap (2 * a2)))))) = ji14 := by simpa only [i64_w] using hji14))
                        replace H : (if 0 ≤ (ji14) then (if (ji14) < (l1.length : Int) then ((kern2_Butterfly.f (rd x0_2 (ji8)) (rd x0_2 (ji11)) (rd l1 (ji14))).bind fun bt168 => (kern2_stage.l1 k2 ((x0_2.set ((ji8) : Int).toNat bt168.1).set ((ji11) : Int).toNat bt168.2) l1 a2 (wrap64 ((l0.length : Int) / (wrap64 (2 * a2)))) x7_1 a2 (wrap64 (x25_2 + 1)))) else (none)) else (none)) = some r := by first | (rw [hji14] at H; exact H) | (simp only [hji14] at H ⊢; exact H)
                        have hji14w : (IntKind.i64.wrap (x25_2 * (wrap64 ((l0.length : Int) / (wrap64 (2 * a2)))))) = ji14 := (i64_w _).trans hji14
                        by_cases c15 : 0 ≤ (ji14)
                        · rw [if_pos c15] at H
                          have c15b0 : decide (0 ≤ (ji14)) = true := decide_eq_true c15
                          clear c15
                          by_cases c16 : (ji14) < (l1.length : Int)
                          · rw [if_pos c16] at H
                            have c16b0 : decide ((ji14) < (l1.length : Int)) = true := decide_eq_true c16
                            (try (have c16b0_0 := c16b0; simp only [hl0_1] at c16b0_0))
                            (try (have c16b0_1 := c16b0; simp only [hl0_2] at c16b0_1))
                            clear c16
                            replace H := Option.bind_eq_some_iff.mp H
                            obtain ⟨⟨t168, t169⟩, A170, H⟩ := H
                            replace H : (kern2_stage.l1 k2 ((x0_2.set ((ji8) : Int).toNat t168).set ((ji11) : Int).toNat t169) l1 a2 (wrap64 ((l0.length : Int) / (wrap64 (2 * a2)))) x7_1 a2 (wrap64 (x25_2 + 1))) = some r := H
                            have A17 := Aside0.mk A170
                            clear A170
                            obtain ⟨y170, hy170⟩ : ∃ y_ : List Int, y_ = (x0_2.set ((ji8) : Int).toNat t168) := ⟨_, rfl⟩
                            replace H : (kern2_stage.l1 k2 (y170.set ((ji11) : Int).toNat t169) l1 a2 (wrap64 ((l0.length : Int) / (wrap64 (2 * a2)))) x7_1 a2 (wrap64 (x25_2 + 1))) = some r := by first | (rw [hy170]; with_reducible exact H) | (have H2_ := (Option.bind_some _ _).symm.trans H; rw [hy170]; with_reducible exact H2_) | (have H2_ := (Option.bind_some _ _).symm.trans H; with_reducible exact H2_) | with_reducible exact H | (rw [hy170]; exact H) | exact H
                            have Ny170 := Aside0.mk hy170
                            clear hy170
                            obtain ⟨y171, hy171⟩ : ∃ y_ : List Int, y_ = (y170.set ((ji11) : Int).toNat t169) := ⟨_, rfl⟩
                            replace H : (kern2_stage.l1 k2 y171 l1 a2 (wrap64 ((l0.length : Int) / (wrap64 (2 * a2)))) x7_1 a2 (wrap64 (x25_2 + 1))) = some r := by first | (rw [hy171]; with_reducible exact H) | (have H2_ := (Option.bind_some _ _).symm.trans H; rw [hy171]; with_reducible exact H2_) | (have H2_ := (Option.bind_some _ _).symm.trans H; with_reducible exact H2_) | with_reducible exact H | (rw [hy171]; exact H) | exact H
                            have Ny171 := Aside0.mk hy171
                            clear hy171
                            have H' := Aside0.mk H
                            clear H
                            try go_wp2
                            have n0_ := Aside0.mk (Kd.R_drew HO_0.out)
                            have n1_ := Aside0.mk (Kept.drew HK.out)
                            have n2_ := Aside0.mk (below_drew1 HB.out)
                            clear HO_0
                            clear HK
                            clear HB
                            have HO_0 := n0_
                            have HK := n1_
                            have HB := n2_
                            clear n0_ n1_ n2_
                            have p165 : 0 ≤ ((ji8) : Int) := of_decide_eq_true (by first | (with_reducible assumption) | assumption)
                            have q165 : (ji8) < (x0_2.length : Int) := of_decide_eq_true (by first | (with_reducible assumption) | assumption)
                            (try (first | (have hq_ := Kd.R_reads' HO_0.out; clear hq_) | (obtain ⟨AoQ165, coQ165, eoQ165⟩ := Kd.R_slice HO_0.out; subst eoQ165)))
                            obtain ⟨ad165, e165, hx165_0⟩ := Kd.at_int (Kd.R_reads' HO_0.out).2.2 (ji8) p165 q165
                            cases e165
                            replace p165 := eq_true p165
                            replace q165 := eq_true q165
                            have p166 : 0 ≤ ((ji11) : Int) := of_decide_eq_true (by first | (with_reducible assumption) | assumption)
                            have q166 : (ji11) < (x0_2.length : Int) := of_decide_eq_true (by first | (with_reducible assumption) | assumption)
                            obtain ⟨ad166, e166, hx166_0⟩ := Kd.at_int (Kd.R_reads' HO_0.out).2.2 (ji11) p166 q166
                            obtain rfl : ad165 = ad166 := (by injection e166)
                            replace p166 := eq_true p166
                            replace q166 := eq_true q166
                            have p167 : 0 ≤ ((ji14) : Int) := of_decide_eq_true (by first | (with_reducible assumption) | assumption)
                            have q167 : (ji14) < (l1.length : Int) := of_decide_eq_true (by first | (with_reducible assumption) | assumption)
                            obtain ⟨ad167, e167, hx167_0⟩ := Kd.at_int (Kd.C_kept_now HR1.out HK.out) (ji14) p167 q167
                            have hw167_0 := hx167_0
                            cases e167
                            replace p167 := eq_true p167
                            replace q167 := eq_true q167
                            refine start_ (n := 26) (S := fun w' => w'.cell? (ad165.add ((ji8)).toNat) = some (.int .u64 (rd x0_2 (ji8))) ∧ w'.cell? (ad165.add ((ji11)).toNat) = some (.int .u64 (rd x0_2 (ji11))) ∧ w'.cell? (ad167.add ((ji14)).toNat) = some (.int .u64 (rd l1 (ji14)))) (ds := [23, 25]) #[false, false, false, false, false, false, false, false, false, false, false, false, false, false, false, false, false, false, false, false, false, false, false, false, false, false] (by kernel_rfl) rfl rfl ⟨hx165_0, hx166_0, (Kd.foot_int (HR1.out _ (by repeat (first | exact HK.out | apply Kept.alloc | apply Kept.drewN | apply Kept.drew | refine Kept.setCell ?_ HMgo18.out _ | refine Kept.setCell ?_ HMgo18.out _))) (ji14) (of_eq_true p167) (of_eq_true q167))⟩ (fun hHeld => ?_); refine with_tabW kern2_stage.tab8 kern2_stage.bits8 (fun HT_ HW_ => ?_)
                            generalize wr.drew = w20 at HO_0 HK HB hx165_0 hx166_0 hx167_0 hHeld ⊢
                            refine pure_ (i := 0) (N := some 37) (v := ?_) (a' := ?_) #[true, false, false, false, false, false, false, false, false, false, false, false, false, false, false, false, false, false, false, false, false, false, false, false, false, false] rfl rfl (any_of HT_.out (by kernel_rfl)) (fun _ _ _ h => h) (Or.inl ⟨by rfl, ?_⟩) ?_ ?_
                            rotate_left
                            · intro w'
                              go_simp
                              with_reducible rfl
                            rotate_left
                            · simp only [Act.put, List.setIfInBounds_toArray, List.set_cons_zero, List.set_cons_succ, i64_w, i32_w]
                              rfl
                            refine pure_ (i := 1) (N := some 38) (v := ?_) (a' := ?_) #[true, true, false, false, false, false, false, false, false, false, false, false, false, false, false, false, false, false, false, false, false, false, false, false, false, false] rfl rfl (any_of HT_.out (by kernel_rfl)) (fun _ _ _ h => h) (Or.inl ⟨by rfl, ?_⟩) ?_ ?_
                            rotate_left
                            · intro w'
                              go_simp
                              with_reducible rfl
                            rotate_left
                            · simp only [Act.put, List.setIfInBounds_toArray, List.set_cons_zero, List.set_cons_succ, i64_w, i32_w]
                              rfl
                            refine pure_ (i := 2) (N := some 39) (v := ?_) (a' := ?_) #[true, true, true, false, false, false, false, false, false, false, false, false, false, false, false, false, false, false, false, false, false, false, false, false, false, false] rfl rfl (any_of HT_.out (by kernel_rfl)) (fun _ _ _ h => h) (Or.inl ⟨by rfl, ?_⟩) ?_ ?_
                            rotate_left
                            · intro w'
                              go_simp
                              with_reducible rfl
                            rotate_left
                            · simp only [Act.put, List.setIfInBounds_toArray, List.set_cons_zero, List.set_cons_succ, i64_w, i32_w]
                              rfl
                            refine pure_ (i := 3) (N := some 40) (v := ?_) (a' := ?_) #[true, true, true, true, false, false, false, false, false, false, false, false, false, false, false, false, false, false, false, false, false, false, false, false, false, false] rfl rfl (any_of HT_.out (by kernel_rfl)) (fun _ _ _ h => h) (Or.inl ⟨by rfl, ?_⟩) ?_ ?_
                            rotate_left
                            · intro w'
                              go_simp
                              with_reducible rfl
                            rotate_left
                            · simp only [Act.put, List.setIfInBounds_toArray, List.set_cons_zero, List.set_cons_succ, i64_w, i32_w]
                              rfl
                            refine pure_ (i := 4) (N := some 41) (v := ?_) (a' := ?_) #[true, true, true, true, true, false, false, false, false, false, false, false, false, false, false, false, false, false, false, false, false, false, false, false, false, false] rfl rfl (any_of HT_.out (by kernel_rfl)) (fun _ _ _ h => h) (Or.inl ⟨by rfl, ?_⟩) ?_ ?_
                            rotate_left
                            · intro w'
                              go_simp
                              with_reducible rfl
                            rotate_left
                            · simp only [Act.put, List.setIfInBounds_toArray, List.set_cons_zero, List.set_cons_succ, i64_w, i32_w]
                              rfl
                            refine pure_ (i := 5) (N := some 42) (v := ?_) (a' := ?_) #[true, true, true, true, true, true, false, false, false, false, false, false, false, false, false, false, false, false, false, false, false, false, false, false, false, false] rfl rfl (any_of HT_.out (by kernel_rfl)) (fun _ _ _ h => h) (Or.inl ⟨by rfl, ?_⟩) ?_ ?_
                            rotate_left
                            · intro w'
                              go_simp
                              with_reducible rfl
                            rotate_left
                            · simp only [Act.put, List.setIfInBounds_toArray, List.set_cons_zero, List.set_cons_succ, i64_w, i32_w]
                              rfl
                            refine pure_ (i := 6) (N := some 43) (v := ?_) (a' := ?_) #[true, true, true, true, true, true, true, false, false, false, false, false, false, false, false, false, false, false, false, false, false, false, false, false, false, false] rfl rfl (any_of HT_.out (by kernel_rfl)) (fun _ _ _ h => h) (Or.inl ⟨by rfl, ?_⟩) ?_ ?_
                            rotate_left
                            · intro w'
                              go_simp
                              with_reducible rfl
                            rotate_left
                            · simp only [Act.put, List.setIfInBounds_toArray, List.set_cons_zero, List.set_cons_succ, i64_w, i32_w]
                              rfl
                            refine pure_ (i := 8) (N := some 45) (v := ?_) (a' := ?_) #[true, true, true, true, true, true, true, false, true, false, false, false, false, false, false, false, false, false, false, false, false, false, false, false, false, false] rfl rfl (any_of HT_.out (by kernel_rfl)) (fun _ _ _ h => h) (Or.inl ⟨by rfl, ?_⟩) ?_ ?_
                            rotate_left
                            · intro w'
                              go_simp
                              with_reducible rfl
                            rotate_left
                            · simp only [Act.put, List.setIfInBounds_toArray, List.set_cons_zero, List.set_cons_succ, i64_w, i32_w]
                              rfl
                            refine pure_ (i := 9) (N := some 46) (v := ?_) (a' := ?_) #[true, true, true, true, true, true, true, false, true, true, false, false, false, false, false, false, false, false, false, false, false, false, false, false, false, false] rfl rfl (any_of HT_.out (by kernel_rfl)) (fun _ _ _ h => h) (Or.inl ⟨by rfl, ?_⟩) ?_ ?_
                            rotate_left
                            · intro w'
                              go_simp
                              with_reducible rfl
                            rotate_left
                            · simp only [Act.put, List.setIfInBounds_toArray, List.set_cons_zero, List.set_cons_succ, i64_w, i32_w]
                              rfl
                            refine pure_ (i := 10) (N := some 47) (v := ?_) (a' := ?_) #[true, true, true, true, true, true, true, false, true, true, true, false, false, false, false, false, false, false, false, false, false, false, false, false, false, false] rfl rfl (any_of HT_.out (by kernel_rfl)) (fun _ _ _ h => h) (Or.inl ⟨by rfl, ?_⟩) ?_ ?_
                            rotate_left
                            · intro w'
                              go_simp
                              with_reducible rfl
                            rotate_left
                            · simp only [Act.put, List.setIfInBounds_toArray, List.set_cons_zero, List.set_cons_succ, i64_w, i32_w]
                              rfl
                            refine pure_ (i := 12) (N := some 49) (v := ?_) (a' := ?_) #[true, true, true, true, true, true, true, false, true, true, true, false, true, false, false, false, false, false, false, false, false, false, false, false, false, false] rfl rfl (any_of HT_.out (by kernel_rfl)) (fun _ _ _ h => h) (Or.inl ⟨by rfl, ?_⟩) ?_ ?_
                            rotate_left
                            · intro w'
                              go_simp
                              with_reducible rfl
                            rotate_left
                            · simp only [Act.put, List.setIfInBounds_toArray, List.set_cons_zero, List.set_cons_succ, i64_w, i32_w]
                              rfl
                            refine pure_ (i := 13) (N := some 50) (v := ?_) (a' := ?_) #[true, true, true, true, true, true, true, false, true, true, true, false, true, true, false, false, false, false, false, false, false, false, false, false, false, false] rfl rfl (any_of HT_.out (by kernel_rfl)) (fun _ _ _ h => h) (Or.inl ⟨by rfl, ?_⟩) ?_ ?_
                            rotate_left
                            · intro w'
                              go_simp
                              with_reducible rfl
                            rotate_left
                            · simp only [Act.put, List.setIfInBounds_toArray, List.set_cons_zero, List.set_cons_succ, i64_w, i32_w]
                              rfl
                            refine pure_ (i := 14) (N := some 51) (v := ?_) (a' := ?_) #[true, true, true, true, true, true, true, false, true, true, true, false, true, true, true, false, false, false, false, false, false, false, false, false, false, false] rfl rfl (any_of HT_.out (by kernel_rfl)) (fun _ _ _ h => h) (Or.inl ⟨by rfl, ?_⟩) ?_ ?_
                            rotate_left
                            · intro w'
                              go_simp
                              with_reducible rfl
                            rotate_left
                            · simp only [Act.put, List.setIfInBounds_toArray, List.set_cons_zero, List.set_cons_succ, i64_w, i32_w]
                              rfl
                            refine pure_ (i := 15) (N := some 52) (v := ?_) (a' := ?_) #[true, true, true, true, true, true, true, false, true, true, true, false, true, true, true, true, false, false, false, false, false, false, false, false, false, false] rfl rfl (any_of HT_.out (by kernel_rfl)) (fun _ _ _ h => h) (Or.inl ⟨by rfl, ?_⟩) ?_ ?_
                            rotate_left
                            · intro w'
                              go_simp
                              with_reducible rfl
                            rotate_left
                            · simp only [Act.put, List.setIfInBounds_toArray, List.set_cons_zero, List.set_cons_succ, i64_w, i32_w]
                              rfl
                            refine pure_ (i := 16) (N := some 53) (v := ?_) (a' := ?_) #[true, true, true, true, true, true, true, false, true, true, true, false, true, true, true, true, true, false, false, false, false, false, false, false, false, false] rfl rfl (any_of HT_.out (by kernel_rfl)) (fun _ _ _ h => h) (Or.inl ⟨by rfl, ?_⟩) ?_ ?_
                            rotate_left
                            · intro w'
                              go_simp
                              with_reducible rfl
                            rotate_left
                            · simp only [Act.put, List.setIfInBounds_toArray, List.set_cons_zero, List.set_cons_succ, i64_w, i32_w]
                              rfl
                            refine take_ (i := 7) (N := some 44) (v := ?_) (a' := ?_) #[true, true, true, true, true, true, true, true, true, true, true, false, true, true, true, true, true, false, false, false, false, false, false, false, false, false] rfl rfl (take_ofW HT_.out HW_.out (by kernel_rfl)) (fun _ _ _ h => h) (Or.inl ⟨by rfl, ?_⟩) hHeld ?_ ?_
                            rotate_left
                            · rintro w' ⟨s0, s1, s2⟩
                              go_simp
                              with_reducible rfl
                            rotate_left
                            · simp only [Act.put, List.setIfInBounds_toArray, List.set_cons_zero, List.set_cons_succ, i64_w, i32_w]
                              rfl
                            refine take_ (i := 11) (N := some 48) (v := ?_) (a' := ?_) #[true, true, true, true, true, true, true, true, true, true, true, true, true, true, true, true, true, false, false, false, false, false, false, false, false, false] rfl rfl (take_ofW HT_.out HW_.out (by kernel_rfl)) (fun _ _ _ h => h) (Or.inl ⟨by rfl, ?_⟩) hHeld ?_ ?_
                            rotate_left
                            · rintro w' ⟨s0, s1, s2⟩
                              go_simp
                              with_reducible rfl
                            rotate_left
                            · simp only [Act.put, List.setIfInBounds_toArray, List.set_cons_zero, List.set_cons_succ, i64_w, i32_w]
                              rfl
                            refine take_ (i := 17) (N := some 54) (v := ?_) (a' := ?_) #[true, true, true, true, true, true, true, true, true, true, true, true, true, true, true, true, true, true, false, false, false, false, false, false, false, false] rfl rfl (take_ofW HT_.out HW_.out (by kernel_rfl)) (fun _ _ _ h => h) (Or.inl ⟨by rfl, ?_⟩) hHeld ?_ ?_
                            rotate_left
                            · rintro w' ⟨s0, s1, s2⟩
                              go_simp
                              with_reducible rfl
                            rotate_left
                            · simp only [Act.put, List.setIfInBounds_toArray, List.set_cons_zero, List.set_cons_succ, i64_w, i32_w]
                              rfl
                            refine one_ (i := 18) (N := some 55) #[true, true, true, true, true, true, true, true, true, true, true, true, true, true, true, true, true, true, true, false, false, false, false, false, false, false] rfl rfl (one_of HT_.out (by kernel_rfl)) (by decide) (fun K hK => ?_)
                            refine goes_ Tryd.func20 (by kernel_rfl) rfl #[.int .u64 (rd x0_2 (ji8)), .int .u64 (rd x0_2 (ji11)), .int .u64 (rd l1 (ji14))] (by rfl) rfl rfl (by (try simp only [List.map_toArray, List.map_cons, List.map_nil]); first | done | (simp only [hji11, hji14, hji8]; rfl) | rfl | (simp only [List.length_drop, List.length_take]; rfl)) ?_
                            with_reducible refine (kern2_Butterfly.calls (rd x0_2 (ji8)) (rd x0_2 (ji11)) (rd l1 (ji14)) t168 t169 _ A17.out).mono ?_
                            rintro e w21 ⟨rfl, hb⟩
                            have HS0_ := (hb.cell (World.block_lt_of_cell? _ _ (hHeld.1))).trans (hHeld.1)
                            have HS1_ := (hb.cell (World.block_lt_of_cell? _ _ (hHeld.2.1))).trans (hHeld.2.1)
                            refine ⟨_, rfl, ?_⟩
                            have n0_ := Aside0.mk (Kd.R_below (by (with_reducible repeat (first | apply Kd.R_alloc | apply Kd.R_drewN | apply Kd.R_drew)); exact HO_0.out) hb)
                            have n1_ := Aside0.mk (Kept.below (S := (fun k_ => P0_ k_)) (by repeat (first | (with_reducible first | exact HK.out | apply Kept.alloc | apply Kept.drewN | apply Kept.drew) | exact HK.out)) hb)
                            have n2_ := Aside0.mk (below_step (by repeat (first | (with_reducible first | exact HB.out | apply below_alloc | apply pw_below_drewN | apply below_drew1) | exact HB.out)) hb)
                            clear HO_0
                            clear HK
                            clear HB
                            have HO_0 := n0_
                            have HK := n1_
                            have HB := n2_
                            clear n0_ n1_ n2_
                            (try clear hb)
                            (try clear hb2)
                            (try clear hk)
                            (try clear hi)
                            have p18 : 0 ≤ ((ji8) : Int) := of_decide_eq_true (by first | (with_reducible assumption) | assumption)
                            have q18 : ((ji8) : Int) < ((x0_2.length : Int) : Int) := of_decide_eq_true (by first | (with_reducible assumption) | assumption)
                            obtain ⟨go18, co18, eo18, gb18, gl18, cl18, HG18⟩ := Kd.R_form HO_0.out (by omega)
                            (first | cases eo18 | (injection eo18 with ea_ en_ ec_; (first | subst ea_ | (injection ea_ with ea_; subst ea_)); subst ec_; clear en_))
                            have GB18 := Aside0.mk gb18
                            have GG18 := Aside0.mk HG18
                            clear gb18 gl18 HG18
                            have HMgo18 := Aside0.mk (show (P0_ go18 ∨ w.heap.size ≤ go18) from (HO_0.out.1 _ rfl))
                            (first | simp only [add_plain] at hx165_0 | skip)
                            (first | simp only [add_plain] at hx166_0 | skip)
                            obtain ⟨hx18_0, hf18_0⟩ := Kd.R_celln 0 HO_0.out ((ji8) : Int) p18 q18
                            replace p18 := eq_true p18
                            replace q18 := eq_true q18
                            have HP22 := Kd.R_putn HO_0.out ((ji8) : Int) t168
                            rw [← Ny170.out] at HP22
                            have HQ22 := Aside0.mk HP22
                            clear HP22
                            have p19 : 0 ≤ ((ji11) : Int) := of_decide_eq_true (by first | (with_reducible assumption) | assumption)
                            have q19 : ((ji11) : Int) < ((x0_2.length : Int) : Int) := of_decide_eq_true (by first | (with_reducible assumption) | assumption)
                            obtain ⟨hx19_0, hf19_0⟩ := Kd.R_celln 0 HQ22.out ((ji11) : Int) p19 q19
                            replace p19 := eq_true p19
                            replace q19 := eq_true q19
                            have HP23 := Kd.R_putn HQ22.out ((ji11) : Int) t169
                            rw [← Ny171.out] at HP23
                            have HQ23 := Aside0.mk HP23
                            clear HP23
                            refine hK.out _ _ ⟨HS0_, HS1_, (Kd.foot_int (HR1.out _ (by repeat (first | exact HK.out | apply Kept.alloc | apply Kept.drewN | apply Kept.drew | refine Kept.setCell ?_ HMgo18.out _ | refine Kept.setCell ?_ HMgo18.out _))) (ji14) (of_eq_true p167) (of_eq_true q167))⟩ (fun hHeld => ?_)
                            clear hK K
                            refine norm_ (a' := ?_) ?_ ?_
                            rotate_left
                            · show Act.put _ (some 55) _ = _
                              simp only [Act.put, List.setIfInBounds_toArray, List.set_cons_zero, List.set_cons_succ, i64_w, i32_w]
                              rfl
                            refine pure_ (i := 19) (N := some 36) (v := ?_) (a' := ?_) #[true, true, true, true, true, true, true, true, true, true, true, true, true, true, true, true, true, true, true, true, false, false, false, false, false, false] rfl rfl (any_of HT_.out (by kernel_rfl)) (fun _ _ _ h => h) (Or.inl ⟨by rfl, ?_⟩) ?_ ?_
                            rotate_left
                            · intro w'
                              go_simp
                              with_reducible rfl
                            rotate_left
                            · simp only [Act.put, List.setIfInBounds_toArray, List.set_cons_zero, List.set_cons_succ, i64_w, i32_w]
                              rfl
                            refine pure_ (i := 20) (N := some 56) (v := ?_) (a' := ?_) #[true, true, true, true, true, true, true, true, true, true, true, true, true, true, true, true, true, true, true, true, true, false, false, false, false, false] rfl rfl (any_of HT_.out (by kernel_rfl)) (fun _ _ _ h => h) (Or.inl ⟨by rfl, ?_⟩) ?_ ?_
                            rotate_left
                            · intro w'
                              go_simp
                              with_reducible rfl
                            rotate_left
                            · simp only [Act.put, List.setIfInBounds_toArray, List.set_cons_zero, List.set_cons_succ, i64_w, i32_w]
                              rfl
                            refine pure_ (i := 21) (N := some 57) (v := ?_) (a' := ?_) #[true, true, true, true, true, true, true, true, true, true, true, true, true, true, true, true, true, true, true, true, true, true, false, false, false, false] rfl rfl (any_of HT_.out (by kernel_rfl)) (fun _ _ _ h => h) (Or.inl ⟨by rfl, ?_⟩) ?_ ?_
                            rotate_left
                            · intro w'
                              go_simp
                              with_reducible rfl
                            rotate_left
                            · simp only [Act.put, List.setIfInBounds_toArray, List.set_cons_zero, List.set_cons_succ, i64_w, i32_w]
                              rfl
                            refine pure_ (i := 22) (N := some 58) (v := ?_) (a' := ?_) #[true, true, true, true, true, true, true, true, true, true, true, true, true, true, true, true, true, true, true, true, true, true, true, false, false, false] rfl rfl (any_of HT_.out (by kernel_rfl)) (fun _ _ _ h => h) (Or.inl ⟨by rfl, ?_⟩) ?_ ?_
                            rotate_left
                            · intro w'
                              go_simp
                              with_reducible rfl
                            rotate_left
                            · simp only [Act.put, List.setIfInBounds_toArray, List.set_cons_zero, List.set_cons_succ, i64_w, i32_w]
                              rfl
                            refine last_ (i := 23) (N := none) #[true, true, true, true, true, true, true, true, true, true, true, true, true, true, true, true, true, true, true, true, true, true, true, true, false, false] rfl rfl (one_of HT_.out (by kernel_rfl)) (by decide) (fun K hK => ?_)
                            refine skip_ (w1 := ?_) (by rfl) rfl ?_ ?_
                            rotate_left
                            · go_simp
                              rfl
                            refine hK.out _ _ ?_
                            clear hK K
                            refine pure_ (i := 24) (N := some 59) (v := ?_) (a' := ?_) #[true, true, true, true, true, true, true, true, true, true, true, true, true, true, true, true, true, true, true, true, true, true, true, true, true, false] rfl rfl (any_of HT_.out (by kernel_rfl)) (fun _ _ _ h => h) (Or.inl ⟨by rfl, ?_⟩) ?_ ?_
                            rotate_left
                            · intro w'
                              go_simp
                              with_reducible rfl
                            rotate_left
                            · simp only [Act.put, List.setIfInBounds_toArray, List.set_cons_zero, List.set_cons_succ, i64_w, i32_w]
                              rfl
                            refine last_ (i := 25) (N := none) #[true, true, true, true, true, true, true, true, true, true, true, true, true, true, true, true, true, true, true, true, true, true, true, true, true, true] rfl rfl (one_of HT_.out (by kernel_rfl)) (by decide) (fun K hK => ?_)
                            refine skip_ (w1 := ?_) (by rfl) rfl ?_ ?_
                            rotate_left
                            · go_simp
                              rfl
                            refine hK.out _ _ ?_
                            clear hK K
                            refine done_ (done_of HT_.out (by kernel_rfl)) ?_
                            try go_wp2
                            (try simp only [← hl0_2])
                            (first | go_roundg k2 | (simp only [add_plain] at *; go_roundg k2))
                            case measure => have := HK1.out; have := HK2.out; omega
                            case rel => exact ⟨(y171), (wrap64 (x25_2 + 1)), (by first | rfl | (simp; done) | (simp [*]; done)), H', ⟨by have := HK1.out; have := HK2.out; omega⟩, ⟨by (try simp only [hl0_1]); (try simp only [hl0_2]); (with_reducible repeat (first | apply Kd.R_alloc | apply Kd.R_drewN | apply Kd.R_drew)); exact HQ23.out⟩, ⟨by repeat (first | (with_reducible first | exact HK.out | apply Kept.alloc | apply Kept.drewN | apply Kept.drew | refine Kept.setCell ?_ HMgo18.out _ | refine Kept.setCell ?_ HMgo18.out _) | exact HK.out)⟩, ⟨by repeat (first | (with_reducible first | exact HB.out | apply below_alloc | apply pw_below_drewN | apply below_drew1 | refine below_set ?_ GB18.out | refine below_set ?_ GB18.out) | exact HB.out)⟩⟩
                          · rw [if_neg c16] at H
                            exact absurd H (by simp)
                        · rw [if_neg c15] at H
                          exact absurd H (by simp)
                      · rw [if_neg c13] at H
                        exact absurd H (by simp)
                    · rw [if_neg c12] at H
                      exact absurd H (by simp)
                  · rw [if_neg c10] at H
                    exact absurd H (by simp)
                · rw [if_neg c9] at H
                  exact absurd H (by simp)
              · rw [if_neg c7] at H
                have c7b0 : decide (x25_2 < a2) = false := decide_eq_false c7
                clear c7
                have H' := Aside0.mk H
                clear H
                go_wp2
                (try simp only [← hl0_1, ← hl0_2])
                (first | go_roundg k2 | (simp only [add_plain] at *; go_roundg k2))
                case measure => have := HK1.out; have := HK2.out; omega
                case rel => exact ⟨(x0_2), (wrap64 (x7_1 + (wrap64 (2 * a2)))), (by first | rfl | (simp; done) | (simp [*]; done)), H', ⟨by have := HK1.out; have := HK2.out; omega⟩, ⟨by (try simp only [hl0_1]); (try simp only [hl0_2]); (with_reducible repeat (first | apply Kd.R_alloc | apply Kd.R_drewN | apply Kd.R_drew)); exact HO_0.out⟩, ⟨by repeat (first | (with_reducible first | exact HK.out | apply Kept.alloc | apply Kept.drewN | apply Kept.drew) | exact HK.out)⟩, ⟨by repeat (first | (with_reducible first | exact HB.out | apply below_alloc | apply pw_below_drewN | apply below_drew1) | exact HB.out)⟩⟩
        · rw [if_neg c6] at H
          have c6b0 : decide (x7_1 < (x0_1.length : Int)) = false := decide_eq_false c6
          (try (have c6b0_0 := c6b0; simp only [hl0_1] at c6b0_0))
          clear c6
          obtain rfl := Option.some.inj H
          go_wp2
          first | go_end0 | ((try simp only [Exit.inBlock, Exit.then]); refine bodyPost_ret (results_none rfl _ _ _) rfl ?_)
          exact ⟨by first | rfl | (simp [errW_none, errW_some] <;> rfl) | (simp [*, errW_none, errW_some] <;> rfl), (by first | exact (by (with_reducible repeat (first | apply Kd.R_alloc | apply Kd.R_drewN | apply Kd.R_drew)); exact HO_0.out) | (simp only [hl0_1]; exact (by (with_reducible repeat (first | apply Kd.R_alloc | apply Kd.R_drewN | apply Kd.R_drew)); exact HO_0.out))), by repeat (first | (with_reducible first | exact HB.out | apply below_alloc | apply pw_below_drewN | apply below_drew1) | exact HB.out), by repeat (first | (with_reducible first | exact HK.out | apply Kept.alloc | apply Kept.drewN | apply Kept.drew) | exact HK.out)⟩

/-! ### kern2_Kernel_Plain: function 25 (by hand) -/
set_option maxHeartbeats 8000000 in
set_option maxRecDepth 100000 in
theorem kern2_table.calls (b : Nat) (d : Int) (v0 v1 q s : Value) (TD : Option Addr) (n cd : Nat) (w : World) (hX : w.heap[b]? = some (.cells #[v0, v1, q, s] 59 (0, 0))) (hv : (d = 0 ∧ v0 = .slice TD n cd) ∨ (d = 1 ∧ v1 = .slice TD n cd)) :
    Calls Tryd.prog 44 #[.pointer (some ⟨b, 0, none⟩), .int .i64 d] w fun e w' => e = .returned (.tuple #[.slice TD n cd, .bool true]) ∧ Drawn0 w w' := by
  rcases hv with ⟨rfl, rfl⟩ | ⟨rfl, rfl⟩
  · have hc := hk_blk_cell hX 0 _ rfl
    clear hX
    go_enter Tryd.func44, Tryd.ntmps44
    go_wp2
    go_ret2
    exact ⟨rfl, by repeat (first | exact Drawn0.refl _ | apply Drawn0.step)⟩
  · have hc := hk_blk_cell hX 1 _ rfl
    clear hX
    go_enter Tryd.func44, Tryd.ntmps44
    go_wp2
    go_ret2
    exact ⟨rfl, by repeat (first | exact Drawn0.refl _ | apply Drawn0.step)⟩
def hk_gofv (a : Int) : Int := (gold_Of.f a).getD 0
theorem hk_gold_Of_some (a : Int) : gold_Of.f a = some (hk_gofv a) := by
  unfold hk_gofv gold_Of.f
  by_cases h : a ≥ 18446744069414584321
  · rw [if_pos h]; rfl
  · rw [if_neg h]; rfl
/-- The first i words of a row, brought into the field, over another row. -/
def hk_ofs (s l : List Int) : Nat → List Int
  | 0 => l
  | i + 1 => (hk_ofs s l i).set i (hk_gofv (rd s (i : Int)))
theorem hk_ofs_length (s l : List Int) : ∀ i, (hk_ofs s l i).length = l.length
  | 0 => rfl
  | i + 1 => by unfold hk_ofs; rw [List.length_set]; exact hk_ofs_length s l i
/-- The first j stages. -/
def hk_stg (n : Nat) (p l : List Int) : Nat → Option (List Int)
  | 0 => some l
  | j + 1 => (hk_stg n p l j).bind fun x => kern2_stage.f n x p ((2 ^ j : Nat) : Int)
theorem hk_stg_down {n : Nat} {p l : List Int} : ∀ {j m : Nat} {r : List Int}, hk_stg n p l (j + m) = some r → ∃ x, hk_stg n p l j = some x
  | j, 0, r, h => ⟨r, h⟩
  | j, m + 1, r, h => by
    unfold hk_stg at h
    obtain ⟨x, hx, _⟩ := Option.bind_eq_some_iff.1 h
    exact hk_stg_down (m := m) hx
theorem hk_pw_len {n k : Nat} (hk : k ≤ 20) (hl : n = 2 ^ k) : ((n : Int) != wrap64 (2 ^ min (IntKind.u64.wrap (k : Int)).toNat 64)) = false := by
  have e : IntKind.u64.wrap (k : Int) = (k : Int) := by simp [IntKind.wrap, IntKind.bits, IntKind.signed]; omega
  have h2 : 2 ^ k ≤ 2 ^ 20 := Nat.pow_le_pow_right (by omega) hk
  rw [e, Int.toNat_natCast, Nat.min_eq_left (by omega), show ((2 : Int) ^ k) = ((2 ^ k : Nat) : Int) by simp, show wrap64 ((2 ^ k : Nat) : Int) = ((2 ^ k : Nat) : Int) by unfold wrap64; omega, hl]
  exact bne_self_eq_false _
set_option maxHeartbeats 8000000 in
set_option maxRecDepth 100000 in
theorem kern2_Plain.calls (n k : Nat) (hk : k ≤ 10) (u : Value) (l0 td r : List Int) (b : Nat) (v0 v1 : Value) (s d : Int) (TD : Option Addr) (cd : Nat) (S : Nat → Prop) (hS : ∀ j, S j ↔ u.ownBlock = some j) (w0 w : World) (hG : Aside0 (TzTab w)) (hB : Below w0.heap.size w0 w)
    (ho0 : Kd.R (Kd.int .u64) 32 w w0.heap.size S u l0)
    (hX : ∀ W, Kept w W S → W.heap[b]? = some (.cells #[v0, v1, .int .u64 s, .int .i64 (k : Int)] 59 (0, 0)))
    (hT : ∀ W, Kept w W S → Kd.C (Kd.int .u64) W TD td.length td) (hcd : td.length ≤ cd)
    (hv : (d = 0 ∧ v0 = .slice TD td.length cd) ∨ (d = 1 ∧ v1 = .slice TD td.length cd))
    (hl : l0.length = 2 ^ k) (hf : root_Fits.f ((l0.length : Nat) : Int) = some ((k : Int), true)) (h : hk_stg n td (hk_ofs (hk_mv k l0 l0.length) l0 l0.length) k = some r) :
    Calls Tryd.prog 25 #[.pointer (some ⟨b, 0, none⟩), u, .int .i64 d] w fun e w' => e = .returned (.int .i64 0) ∧ Kd.R (Kd.int .u64) 32 w' w0.heap.size S u r ∧ Below w0.heap.size w0 w' ∧ Kept w w' S := by
  have HK := Aside0.mk hk
  have HB := Aside0.mk hB
  have HX := Aside0.mk hX
  have HT := Aside0.mk hT
  have HCD := Aside0.mk hcd
  have HV := Aside0.mk hv
  have HL := Aside0.mk hl
  have HF := Aside0.mk hf
  have H := Aside0.mk h
  obtain ⟨g, co, eo, gb, gl, cl, hGG⟩ := Kd.R_form ho0 (by rw [hl]; exact Nat.two_pow_pos k)
  subst eo
  have HO := Aside0.mk ho0
  have GB := Aside0.mk gb
  have HSG := Aside0.mk (show S g from (hS g).2 rfl)
  have HS := Aside0.mk hS
  have hc3 := hk_blk_cell (hX w (Kept.refl _ _)) 3 _ rfl
  have hcond := hk_pw_len (k := k) (by omega) hl
  clear hk hB hX hT hcd hv hl hf h ho0 gb gl hGG hS
  go_enter Tryd.func25, Tryd.ntmps25
  go_wp2_with (first | (go_at_call 44; (with_reducible refine (kern2_table.calls b d v0 v1 _ _ TD td.length cd _ (HX.out _ (Kept.refl _ _)) HV.out).mono ?_); rintro e w1 ⟨rfl, hb1⟩; have hb1b := hk_drawn_below hb1; have HO1 := Aside0.mk (Kd.R_below HO.out hb1b); have HB1 := Aside0.mk (HB.out.trans (hb1b.mono HB.out.size)); have HK1 := Aside0.mk (Kept.of_below hb1b S); have HG1 := Aside0.mk (hG.out.below hb1b); clear hb1 hb1b) | (go_at_call 45; (with_reducible refine (rev_Turn.calls k HK.out (some ⟨g, 0, none⟩) co l0 _ HG1 (Kd.R_reads' HO1.out).2.2 ((Kd.R_reads' HO1.out).2.1) HL.out HF.out).mono ?_); rintro e w2 ⟨vT, rfl, hR2, hB2⟩; obtain ⟨g2, co2, eo2, gb2, gl2, cl2, hGG2⟩ := Kd.R_form hR2 (by rw [hk_mv_length, HL.out]; exact Nat.two_pow_pos k); rw [hk_mv_length] at eo2; subst eo2; have HR2 := Aside0.mk hR2; have HB2 := Aside0.mk hB2; have GB2 := Aside0.mk gb2; clear hR2 hB2 gb2 gl2 hGG2))
  have HO2 := Aside0.mk (Kd.R_below HO1.out HB2.out)
  have HBt := Aside0.mk (HB1.out.trans (HB2.out.mono HB1.out.size))
  have HK2 := Aside0.mk (HK1.out.below HB2.out)
  have HT2 := Aside0.mk (Kd.C_kept_own (S := S) (Kd.R_bound HR2.out) (fun q hq hs => by
    have h1 := (HS.out q).1 hs
    have h2 : g < w1.heap.size := Kd.R_lt HO1.out g rfl
    have h3 : g = q := by simpa [Value.ownBlock] using h1
    have := hq.2.1
    omega))
  clear HO1 HB1 HK1 HR2 HB2 HO HG1
  have hn : l0.length ≤ 1024 := by rw [HL.out]; exact Nat.pow_le_pow_right (n := 2) (by omega) HK.out
  go_loopg [40] (l0.length) (fun kq v40 w' => ∃ (i : Nat), v40 = .int .i64 (i : Int) ∧ Aside0 (kq + i = l0.length) ∧ Aside0 (Kd.R (Kd.int .u64) 32 w' w0.heap.size S (.slice (some ⟨g, 0, none⟩) l0.length co) (hk_ofs (hk_mv k l0 l0.length) l0 i)) ∧ Aside0 (Below w0.heap.size w0 w') ∧ Aside0 (Kept w2 w' S))
  case atStart => exact ⟨0, by simp, ⟨by omega⟩, HO2, HBt, ⟨Kept.refl _ _⟩⟩
  case round =>
    obtain ⟨i, rfl, HI, HOi, HBi, HKi⟩ := hrel
    cases gk with
    | zero =>
      have hi := HI.out
      have c1 : decide ((i : Int) < (l0.length : Int)) = false := decide_eq_false (by omega)
      have c2 : (i < l0.length) = False := eq_false (by omega)
      have e : i = l0.length := by omega
      rw [e] at HOi
      clear hi e
      go_wp2_with fail
      go_loopg [13] k (fun kq v13 w' => ∃ (j : Nat) (h : Int) (x : List Int), v13 = .int .i64 h ∧ Aside0 (h = ((2 ^ j : Nat) : Int)) ∧ Aside0 (kq + j = k) ∧ Aside0 (hk_stg n td (hk_ofs (hk_mv k l0 l0.length) l0 l0.length) j = some x) ∧ Aside0 (Kd.R (Kd.int .u64) 32 w' w0.heap.size S (.slice (some ⟨g, 0, none⟩) l0.length co) x) ∧ Aside0 (Below w0.heap.size w0 w') ∧ Aside0 (Kept w2 w' S))
      case atStart => exact ⟨0, 1, _, rfl, ⟨by simp⟩, ⟨by omega⟩, ⟨rfl⟩, HOi, HBi, HKi⟩
      case round =>
        obtain ⟨j, h, x, rfl, HH, HJ, Hx, HOj, HBj, HKj⟩ := hrel
        cases gk with
        | zero =>
          have ej : j = k := by have := HJ.out; omega
          have d1 : decide (h < (l0.length : Int)) = false := decide_eq_false (by rw [HH.out, ej, HL.out]; omega)
          have er : x = r := by have h1 := Hx.out; rw [ej, H.out] at h1; injection h1 with h1; exact h1.symm
          rw [er] at HOj
          clear ej er
          go_wp2_with fail
          go_ret
          exact ⟨rfl, HOj.out, HBj.out, HK2.out.then_ HKj.out (fun q hq => .inl hq)⟩
        | succ k2 =>
          have ej := HJ.out
          have hlt : 2 ^ j < l0.length := by rw [HL.out]; exact Nat.pow_lt_pow_right (by omega) (by omega)
          have d1 : decide (h < (l0.length : Int)) = true := decide_eq_true (by rw [HH.out]; omega)
          have hdn : ∃ y, hk_stg n td (hk_ofs (hk_mv k l0 l0.length) l0 l0.length) (j + 1) = some y := hk_stg_down (m := k2) (by rw [show j + 1 + k2 = k by omega]; exact H.out)
          obtain ⟨y, hy⟩ := hdn
          have hy2 := hy
          unfold hk_stg at hy2
          rw [Hx.out, Option.bind_some] at hy2
          have HY := Aside0.mk hy
          rw [← HH.out] at hy2
          have HY2 := Aside0.mk hy2
          have hxl := (Kd.R_reads' HOj.out).1
          have HXL := Aside0.mk hxl
          have HLT := Aside0.mk hlt
          clear ej hlt hy hy2 hxl
          go_wp2_with ((go_at_call 47; (with_reducible refine (kern2_stage.calls n S _ x TD cd td _ y w0 _ HBj.out HOj.out ?vt HCD.out HY2.out).mono ?_); (case vt => exact Kd.C_kept_call HT.out (HK2.out.then_ HKj.out (fun q hq => .inl hq)) (fun q hq => .inl hq)); rintro e w6 ⟨rfl, hR6, hB6, hK6⟩; have HR6 := Aside0.mk hR6; have HB6 := Aside0.mk hB6; have HK6 := Aside0.mk hK6; clear hR6 hB6 hK6))
          have HR7 := Aside0.mk (Kd.R_flat (fun h => h) HR6.out (fun q hq _ => (HS.out q).2 hq))
          have HK7 := Aside0.mk (HKj.out.then_ HK6.out (fun q hq => .inl hq))
          clear HR6 HK6 d1
          go_roundg k2
          case measure => omega
          case rel => exact ⟨j + 1, wrap64 (h * 2), y, rfl, ⟨by have h1 := HH.out; have h2 := HLT.out; rw [h1, Nat.pow_succ]; unfold wrap64; omega⟩, ⟨by have := HJ.out; omega⟩, HY, HR7, HB6, HK7⟩
    | succ k1 =>
      have hi := HI.out
      have c1 : decide ((i : Int) < (l0.length : Int)) = true := decide_eq_true (by omega)
      have c2 : (i < l0.length) = True := eq_true (by omega)
      have hil : i < l0.length := by omega
      have hx := HT2.out wr HKi.out
      obtain ⟨ad, e0, hx⟩ := Kd.at_int hx (i : Int) (by omega) (by omega)
      cases e0
      rw [Int.toNat_natCast] at hx
      replace hx : wr.cell? ⟨g2, i, none⟩ = some (.int .u64 (rd (hk_mv k l0 l0.length) (i : Int))) := by by_cases c : i = 0 <;> simpa [Addr.add, c] using hx
      have h0 : (0 ≤ (i : Int)) = True := eq_true (by omega)
      have h1 : ((i : Int) < (l0.length : Int)) = True := eq_true (by omega)
      have HOF := Aside0.mk (hk_gold_Of_some (rd (hk_mv k l0 l0.length) (i : Int)))
      obtain ⟨hx2, hf2⟩ := Kd.R_celln 0 HOi.out (i : Int) (by omega) (by omega)
      rw [Int.toNat_natCast] at hx2 hf2
      clear hi hil
      go_wp2_with ((go_at_call 46; (with_reducible refine (gold_Of.calls _ _ _ HOF.out).mono ?_); rintro e w5 ⟨rfl, hb1⟩; obtain ⟨nd, rfl⟩ := hb1.out; clear hb1))
      have HP := Aside0.mk (Kd.R_putn (Kd.R_drewN HOi.out nd) (i : Int) (hk_gofv (rd (hk_mv k l0 l0.length) (i : Int))))
      have HB2 := Aside0.mk (below_set (pw_below_drewN HBi.out nd) GB.out (j := i) (v := .int .u64 (hk_gofv (rd (hk_mv k l0 l0.length) (i : Int)))))
      have HK9 := Aside0.mk ((HKi.out.drewN nd).setCell (p := ⟨g, i, none⟩) (.inl HSG.out) (.int .u64 (hk_gofv (rd (hk_mv k l0 l0.length) (i : Int)))))
      rw [Int.toNat_natCast] at HP
      generalize (wr.drewN nd).setCell ⟨g, i, none⟩ (.int .u64 (hk_gofv (rd (hk_mv k l0 l0.length) (i : Int)))) = w9 at HP HB2 HK9 ⊢
      clear hx2 hf2 h0 h1 c1 c2 hx
      go_roundg k1
      case measure => omega
      case rel => exact ⟨i + 1, (by rw [show wrap64 ((i : Int) + 1) = ((i + 1 : Nat) : Int) by have := HI.out; unfold wrap64; omega]), ⟨by have := HI.out; omega⟩, HP, HB2, HK9⟩

/-! ### twid_Scale: function 43 -/
def twid_Scale.l0 : Nat → Int → List Int → List Int → Int → Int → Option (List Int)
  | 0, _, _, _, _, _ => none
  | k + 1, x1, x5, x11, x12, x13 => if x13 < x12 then (if 0 ≤ x13 then (if x13 < (x11.length : Int) then ((gold_Mul.f (rd x11 x13) x1).bind fun t176 => (if x13 < (x5.length : Int) then (twid_Scale.l0 k x1 (x5.set (x13 : Int).toNat t176) x11 x12 (wrap64 (x13 + 1))) else (none))) else (none)) else (none)) else (some x5)
def twid_Scale.f (k : Nat) (l0 : List Int) (a1 : Int) : Option (List Int) := if 0 ≤ (l0.length : Int) then (if ((l0.length : Int) : Int).toNat ≤ 35184372088832 then (twid_Scale.l0 k a1 (List.replicate ((l0.length : Int) : Int).toNat 0) l0 (l0.length : Int) 0) else (none)) else (none)
theorem twid_Scale.mono_l : ∀ k, (∀ y0 y1 y2 y3 y4, LeO (twid_Scale.l0 k y0 y1 y2 y3 y4) (twid_Scale.l0 (k + 1) y0 y1 y2 y3 y4))
  | 0 => fun _ _ _ _ _ r h => by simp [twid_Scale.l0] at h
  | k + 1 => by
    have ih0 := twid_Scale.mono_l k
    · intro y0 y1 y2 y3 y4
      unfold twid_Scale.l0
      repeat' first
      | (with_reducible exact ih0 _ _ _ _ _)
      | (with_reducible exact LeO.refl _)
      | (with_reducible exact LeO.none _)
      | (with_reducible refine LeO.ite ?_ ?_)
      | (with_reducible refine LeO.bind ?_ (fun _ => ?_))
      | exact ih0 _ _ _ _ _
      | exact LeO.none _
      | refine LeO.ite ?_ ?_
      | refine LeO.bind ?_ (fun _ => ?_)
theorem twid_Scale.mono : ∀ a0 a1 k, LeO (twid_Scale.f k a0 a1) (twid_Scale.f (k + 1) a0 a1) := by
  intro a0 a1 k
  have ih0 := twid_Scale.mono_l k
  unfold twid_Scale.f
  repeat' first
      | (with_reducible exact ih0 _ _ _ _ _)
      | (with_reducible exact LeO.refl _)
      | (with_reducible exact LeO.none _)
      | (with_reducible refine LeO.ite ?_ ?_)
      | (with_reducible refine LeO.bind ?_ (fun _ => ?_))
      | exact ih0 _ _ _ _ _
      | exact LeO.none _
      | refine LeO.ite ?_ ?_
      | refine LeO.bind ?_ (fun _ => ?_)
set_option maxHeartbeats 8000000 in
set_option maxRecDepth 100000 in
theorem twid_Scale.calls (k : Nat) (A0 : Option Addr) (c0 : Nat) (l0 : List Int) (a1 : Int) (r : List Int) (w : World) (hr0 : Kd.C (Kd.int .u64) w A0 l0.length l0) (hc0 : l0.length ≤ c0) (h : twid_Scale.f k l0 a1 = some r) :
    Calls Tryd.prog 43 #[.slice A0 l0.length c0, .int .u64 a1] w fun e w' => ∃ v0_ : Value, e = .returned (v0_) ∧ Kd.R (Kd.int .u64) 32 w' w.heap.size (fun _ => True) v0_ r ∧ Below w.heap.size w w' := by
  have HR0 := Aside0.mk hr0
  have HC0 := Aside0.mk hc0
  clear hr0 hc0
  have HB := Aside0.mk (Below.refl w.heap.size w)
  have H : (if 0 ≤ (l0.length : Int) then (if ((l0.length : Int) : Int).toNat ≤ 35184372088832 then (twid_Scale.l0 k a1 (List.replicate ((l0.length : Int) : Int).toNat 0) l0 (l0.length : Int) 0) else (none)) else (none)) = some r := h
  clear h
  by_cases c3 : 0 ≤ (l0.length : Int)
  · rw [if_pos c3] at H
    have c3b0 := eq_true c3
    have LTc3 := Aside0.mk (show (((l0.take (0 : Int).toNat).length : Int) = max 0 0) by rw [List.length_take]; omega)
    (try (have LDc3 := Aside0.mk (show ∀ lo_ : Nat, (((l0.take (0 : Int).toNat).drop lo_).length : Int) = (((0 : Int).toNat - lo_ : Nat) : Int) from fun lo_ => by rw [List.length_drop, List.length_take]; omega)))
    have c3b1 : decide (0 ≤ (l0.length : Int)) = true := decide_eq_true c3
    clear c3
    by_cases c4 : ((l0.length : Int) : Int).toNat ≤ 35184372088832
    · rw [if_pos c4] at H
      have c4b0 := eq_true c4
      have c4b1 : decide (((l0.length : Int) : Int).toNat ≤ 35184372088832) = true := decide_eq_true c4
      clear c4
      obtain ⟨y172, hy172⟩ : ∃ y_ : List Int, y_ = (List.replicate ((l0.length : Int) : Int).toNat 0) := ⟨_, rfl⟩
      replace H : (twid_Scale.l0 k a1 y172 l0 (l0.length : Int) 0) = some r := by first | (rw [hy172]; with_reducible exact H) | (have H2_ := (Option.bind_some _ _).symm.trans H; rw [hy172]; with_reducible exact H2_) | (have H2_ := (Option.bind_some _ _).symm.trans H; with_reducible exact H2_) | with_reducible exact H | (rw [hy172]; exact H) | exact H
      have Ny172 := Aside0.mk hy172
      clear hy172
      have H' := Aside0.mk H
      clear H
      go_enter Tryd.func43, Tryd.ntmps43
      go_wp2_with (first | ((with_reducible refine gate_dst (N := 10) rfl ?_); refine Kd.R_make (Kd.int .u64) _ 32 rfl (N := 10) rfl 22 _ _ rfl (l0.length : Int) rfl rfl Tryd.underlying22 (.int .u64 0) 8 info32 rfl (by decide) (by omega) 0 (ok := fun _ => True) (okp := fun _ => True) rfl (fun _ hk => hk) trivial (of_decide_eq_true (by first | (with_reducible assumption) | assumption)) (Nat.le_trans (Nat.mul_le_mul_right _ (of_decide_eq_true (by first | (with_reducible assumption) | assumption) : (l0.length : Int).toNat ≤ 35184372088832)) (by omega)) (Below.refl _ _) (Nat.le_refl _) ?_; intro v173 w5 ho6 hb hg_ hnew_; clear hg_ hnew_; (first | rw [← Ny172.out] at ho6 | (simp only [Int.reduceToNat] at ho6; rw [← Ny172.out] at ho6)); have n0_ := Aside0.mk (Kd.R_lower ho6 (below_size (by repeat (first | (with_reducible first | exact HB.out | apply below_alloc | apply pw_below_drewN | apply below_drew1) | exact HB.out)))); have n1_ := Aside0.mk (below_step (by repeat (first | (with_reducible first | exact HB.out | apply below_alloc | apply pw_below_drewN | apply below_drew1) | exact HB.out)) hb); clear HB; have HO174 := n0_; have HB := n1_; clear n0_ n1_; clear hb ho6))
      go_loopg [13] k (fun kq v13 w' => ∃ (x5_1 : List Int) (x13_1 : Int), v13 = .int .i64 x13_1 ∧ Aside0 (twid_Scale.l0 kq a1 x5_1 l0 (l0.length : Int) x13_1 = some r) ∧ Aside0 (kq ≤ k) ∧ Aside0 (Kd.R (Kd.int .u64) 32 w' w.heap.size (fun _ => True) v173 x5_1) ∧ Aside0 (Below w.heap.size w w'))
      case atStart => exact ⟨(y172), (0), (by first | rfl | (simp; done) | (simp [*]; done)), H', ⟨Nat.le_refl _⟩, ⟨by (with_reducible repeat (first | apply Kd.R_alloc | apply Kd.R_drewN | apply Kd.R_drew)); exact HO174.out⟩, ⟨by repeat (first | (with_reducible first | exact HB.out | apply below_alloc | apply pw_below_drewN | apply below_drew1) | exact HB.out)⟩⟩
      case round =>
        clear H'
        try clear p2
        try clear c3
        try clear c3b0
        try clear c3b1
        try clear c4
        try clear c4b0
        try clear c4b1
        obtain ⟨x5_1, x13_1, rfl, HA, HK1, HO_5, HB⟩ := hrel
        cases gk with
        | zero => exact absurd HA.out (by simp [twid_Scale.l0])
        | succ k1 =>
          have H := HA.out
          clear HA
          simp only [twid_Scale.l0] at H
          by_cases c7 : x13_1 < (l0.length : Int)
          · rw [if_pos c7] at H
            have c7b0 : decide (x13_1 < (l0.length : Int)) = true := decide_eq_true c7
            (try (have c7b0_0 := c7b0; rw [LTc3.out] at c7b0_0))
            (try (have c7b0_0p := eq_true (of_decide_eq_true c7b0_0)))
            (try (have c7b0_1 := c7b0; rw [LDc3.out] at c7b0_1))
            (try (have c7b0_1p := eq_true (of_decide_eq_true c7b0_1)))
            clear c7
            by_cases c8 : 0 ≤ x13_1
            · rw [if_pos c8] at H
              have c8b0 : decide (0 ≤ x13_1) = true := decide_eq_true c8
              clear c8
              by_cases c9 : x13_1 < (l0.length : Int)
              · rw [if_pos c9] at H
                have c9b0 : decide (x13_1 < (l0.length : Int)) = true := decide_eq_true c9
                (try (have c9b0_0 := c9b0; rw [LTc3.out] at c9b0_0))
                (try (have c9b0_0p := eq_true (of_decide_eq_true c9b0_0)))
                (try (have c9b0_1 := c9b0; rw [LDc3.out] at c9b0_1))
                (try (have c9b0_1p := eq_true (of_decide_eq_true c9b0_1)))
                clear c9
                replace H := Option.bind_eq_some_iff.mp H
                obtain ⟨t176, A100, H⟩ := H
                replace H : (if x13_1 < (x5_1.length : Int) then (twid_Scale.l0 k1 a1 (x5_1.set (x13_1 : Int).toNat t176) l0 (l0.length : Int) (wrap64 (x13_1 + 1))) else (none)) = some r := H
                have A10 := Aside0.mk A100
                clear A100
                by_cases c11 : x13_1 < (x5_1.length : Int)
                · rw [if_pos c11] at H
                  have c11b0 : decide (x13_1 < (x5_1.length : Int)) = true := decide_eq_true c11
                  (try (have c11b0_0 := c11b0; rw [LTc3.out] at c11b0_0))
                  (try (have c11b0_0p := eq_true (of_decide_eq_true c11b0_0)))
                  (try (have c11b0_1 := c11b0; rw [LDc3.out] at c11b0_1))
                  (try (have c11b0_1p := eq_true (of_decide_eq_true c11b0_1)))
                  clear c11
                  obtain ⟨y177, hy177⟩ : ∃ y_ : List Int, y_ = (x5_1.set (x13_1 : Int).toNat t176) := ⟨_, rfl⟩
                  replace H : (twid_Scale.l0 k1 a1 y177 l0 (l0.length : Int) (wrap64 (x13_1 + 1))) = some r := by first | (rw [hy177]; with_reducible exact H) | (have H2_ := (Option.bind_some _ _).symm.trans H; rw [hy177]; with_reducible exact H2_) | (have H2_ := (Option.bind_some _ _).symm.trans H; with_reducible exact H2_) | with_reducible exact H | (rw [hy177]; exact H) | exact H
                  have Ny177 := Aside0.mk hy177
                  clear hy177
                  have H' := Aside0.mk H
                  clear H
                  have p175 : 0 ≤ (x13_1 : Int) := of_decide_eq_true (by first | (with_reducible assumption) | assumption)
                  have q175 : x13_1 < (l0.length : Int) := of_decide_eq_true (by first | (with_reducible assumption) | assumption)
                  obtain ⟨ad175, e175, hx175_0⟩ := Kd.at_int HR0.out x13_1 p175 q175
                  cases e175
                  replace hx175_0 := (HB.out.cell (World.block_lt_of_cell? w _ hx175_0)).trans hx175_0
                  replace p175 := eq_true p175
                  replace q175 := eq_true q175
                  go_wp2_with (first | ((with_reducible refine gate_callee (f := 38) rfl ?_); refine goesL_ (some 22) rfl rfl Tryd.func38 (by kernel_rfl) rfl #[.int .u64 (rd l0 x13_1), .int .u64 a1] rfl (by (try simp only [List.map_toArray, List.map_cons, List.map_nil]); first | done | rfl | (simp only [List.length_drop, List.length_take]; rfl)) ?_; (with_reducible refine (gold_Mul.calls (rd l0 x13_1) a1 t176 _ A10.out).mono ?_); rintro e w13 ⟨rfl, hb⟩; refine ⟨_, rfl, ?_⟩; have n0_ := Aside0.mk (Kd.R_below (by (with_reducible repeat (first | apply Kd.R_alloc | apply Kd.R_drewN | apply Kd.R_drew)); exact HO_5.out) hb); have n1_ := Aside0.mk (below_step (by repeat (first | (with_reducible first | exact HB.out | apply below_alloc | apply pw_below_drewN | apply below_drew1) | exact HB.out)) hb); clear HO_5; clear HB; have HO_5 := n0_; have HB := n1_; clear n0_ n1_; (try clear hb); (try clear hb2); (try clear hk); (try clear hi); have p12 : 0 ≤ (x13_1 : Int) := of_decide_eq_true (by first | (with_reducible assumption) | assumption); have q12 : (x13_1 : Int) < ((x5_1.length : Int) : Int) := of_decide_eq_true (by first | (with_reducible assumption) | assumption); obtain ⟨go12, co12, eo12, gb12, gl12, cl12, HG12⟩ := Kd.R_form HO_5.out (by omega); (first | cases eo12 | (injection eo12 with ea_ en_ ec_; (first | subst ea_ | (injection ea_ with ea_; subst ea_)); subst ec_; clear en_)); have GB12 := Aside0.mk gb12; have GG12 := Aside0.mk HG12; clear gb12 gl12 HG12; obtain ⟨hx12_0, hf12_0⟩ := Kd.R_celln 0 HO_5.out (x13_1 : Int) p12 q12; replace p12 := eq_true p12; replace q12 := eq_true q12; obtain ⟨hy14_, hz14_⟩ := Kd.R_celln 0 HO_5.out (x13_1 : Int) (of_decide_eq_true (by first | (with_reducible assumption) | assumption)) (of_decide_eq_true (by first | (with_reducible assumption) | assumption)); have HP14 := Kd.R_putg HO_5.out (x13_1 : Int) t176) | ((with_reducible refine gate_store (t := 32) (p := 23) rfl ?_); refine store_event (t := 32) (p := 23) (v := ?vo_w15) (w1 := (w13.setCell ⟨go12, (x13_1 : Int).toNat, none⟩ (.int .u64 t176))) ?hg ?ho ?hn ?hr ?_; (case ho => rfl); (case hg => rfl); (case hn => rfl); (case hr => first | (go_simp; done) | (go_simp; rfl)); intro w15 hw; have hg : w13.grownBy w15 (some go12) := (by rw [hw]; exact HP14.2); have hp_ : Kd.R (Kd.int .u64) 32 w15 w.heap.size (fun _ => True) (.slice (some ⟨go12, 0, none⟩) x5_1.length co12) y177 := (by rw [hw, Ny177.out]; exact HP14.1); clear HP14; have n0_ := Aside0.mk (hp_); have n1_ := Aside0.mk ((by rw [hw]; exact below_set (HB.out) GB12.out : Below w.heap.size w w15)); clear HO_5; clear HB; have HO_5 := n0_; have HB := n1_; clear n0_ n1_; clear hg hw hp_))
                  (first | go_roundg k1 | (simp only [add_plain] at *; go_roundg k1))
                  case measure => have := HK1.out; omega
                  case rel => exact ⟨(y177), (wrap64 (x13_1 + 1)), (by first | rfl | (simp; done) | (simp [*]; done)), H', ⟨by have := HK1.out; omega⟩, ⟨by (with_reducible repeat (first | apply Kd.R_alloc | apply Kd.R_drewN | apply Kd.R_drew)); exact HO_5.out⟩, ⟨by repeat (first | (with_reducible first | exact HB.out | apply below_alloc | apply pw_below_drewN | apply below_drew1) | exact HB.out)⟩⟩
                · rw [if_neg c11] at H
                  exact absurd H (by simp)
              · rw [if_neg c9] at H
                exact absurd H (by simp)
            · rw [if_neg c8] at H
              exact absurd H (by simp)
          · rw [if_neg c7] at H
            have c7b0 : decide (x13_1 < (l0.length : Int)) = false := decide_eq_false c7
            (try (have c7b0_0 := c7b0; rw [LTc3.out] at c7b0_0))
            (try (have c7b0_1 := c7b0; rw [LDc3.out] at c7b0_1))
            clear c7
            obtain rfl := Option.some.inj H
            go_wp2
            go_ret
            exact ⟨_, by first | rfl | (simp [errW_none, errW_some] <;> rfl) | (simp [*, errW_none, errW_some] <;> rfl), by (with_reducible repeat (first | apply Kd.R_alloc | apply Kd.R_drewN | apply Kd.R_drew)); exact HO_5.out, by repeat (first | (with_reducible first | exact HB.out | apply below_alloc | apply pw_below_drewN | apply below_drew1) | exact HB.out)⟩
    · rw [if_neg c4] at H
      exact absurd H (by simp)
  · rw [if_neg c3] at H
    exact absurd H (by simp)

end Go.Proofs.YtggmpdmlbjllhaaDoor.PHalvesRun
