-- Written for this claim by wip/gen/mk.sh, this session's own driver over the kit's print
import Derived.Test.YtnmjomcpkckihaaDoorPChirpRunsx0
namespace Go.Proofs.YtnmjomcpkckihaaDoor.PChirpRuns
open Go.RowKit Go.Proofs.YtnmjomcpkckihaaDoorW.PrintWords Go.Proofs.YtnmjomcpkckihaaDoorW.PrintLast Go.Proofs.YtnmjomcpkckihaaDoorW.PrintMore
attribute [local go_sem] max2_int min2_int max_two min_two max_three min_three max_four min_four   -- for this text's walks alone
set_option linter.unusedVariables false
set_option linter.unusedSimpArgs false

/-! ### chirp_parts: function 42 -/
def chirp_parts.l0 : Nat → Int → List (List Int) → List Int → Int → Int → Option ((List (List Int)))
  | 0, _, _, _, _, _ => none
  | k + 1, x1, x5, x10, x11, x12 => if x12 < x11 then (if 0 ≤ x12 then (if x12 < (x10.length : Int) then (if x1 = 0 then (none) else (if 0 ≤ (Int.tmod x12 x1) then (if (Int.tmod x12 x1) < (x5.length : Int) then (if (rd_L1 x5 (Int.tmod x12 x1)).length < 17592186044416 then (chirp_parts.l0 k x1 (x5.set ((Int.tmod x12 x1) : Int).toNat ((rd_L1 x5 (Int.tmod x12 x1)) ++ [rd x10 x12])) x10 x11 (wrap64 (x12 + 1))) else (none)) else (none)) else (none))) else (none)) else (none)) else (some x5)
def chirp_parts.f (k : Nat) (l0 : List Int) (a1 : Int) : Option ((List (List Int))) := if 0 ≤ a1 then (if (a1 : Int).toNat ≤ 11728124029610 then (chirp_parts.l0 k a1 (List.replicate (a1 : Int).toNat []) l0 (l0.length : Int) 0) else (none)) else (none)
theorem chirp_parts.mono_l : ∀ k, (∀ y0 y1 y2 y3 y4, LeO (chirp_parts.l0 k y0 y1 y2 y3 y4) (chirp_parts.l0 (k + 1) y0 y1 y2 y3 y4))
  | 0 => fun _ _ _ _ _ r h => by simp [chirp_parts.l0] at h
  | k + 1 => by
    have ih0 := chirp_parts.mono_l k
    · intro y0 y1 y2 y3 y4
      unfold chirp_parts.l0
      repeat' first
      | (with_reducible exact ih0 _ _ _ _ _)
      | (with_reducible exact LeO.refl _)
      | (with_reducible exact LeO.none _)
      | (with_reducible refine LeO.ite ?_ ?_)
      | (with_reducible refine LeO.bind ?_ (fun _ => ?_))
      | exact ih0 _ _ _ _ _
      | exact LeO.none _
      | refine LeO.ite ?_ ?_
      | refine LeO.bind ?_ (fun _ => ?_)
theorem chirp_parts.mono : ∀ a0 a1 k, LeO (chirp_parts.f k a0 a1) (chirp_parts.f (k + 1) a0 a1) := by
  intro a0 a1 k
  have ih0 := chirp_parts.mono_l k
  unfold chirp_parts.f
  repeat' first
      | (with_reducible exact ih0 _ _ _ _ _)
      | (with_reducible exact LeO.refl _)
      | (with_reducible exact LeO.none _)
      | (with_reducible refine LeO.ite ?_ ?_)
      | (with_reducible refine LeO.bind ?_ (fun _ => ?_))
      | exact ih0 _ _ _ _ _
      | exact LeO.none _
      | refine LeO.ite ?_ ?_
      | refine LeO.bind ?_ (fun _ => ?_)
def chirp_parts.T5 : Bool × List (List Nat × List Nat) := (true, [([], []), ([], []), ([], []), ([1, 2], [1, 2]), ([], []), ([], []), ([], []), ([5, 6], [5, 6]), ([4, 7], [4, 7]), ([8], [8]), ([], []), ([10], [10]), ([9, 11], [9, 11]), ([0, 3, 0, 1, 2, 3, 4, 5, 6, 7, 8, 9, 10, 11, 12], [0, 3]), ([13, 12, 12, 0, 1, 2, 3, 4, 5, 6, 7, 8, 9, 10, 11, 12], [12, 13])])
def chirp_parts.B5 : List Nat := [0, 0, 0, 6, 0, 0, 0, 96, 240, 496, 0, 1024, 4080, 8191, 16383]
theorem chirp_parts.tab5 : rtab .any (opsOf Tryd.f42 5) = chirp_parts.T5 := by kernel_rfl
theorem chirp_parts.bits5 : waitsOk chirp_parts.T5.2 chirp_parts.B5 = true := by kernel_rfl
set_option maxHeartbeats 80000000 in
set_option maxRecDepth 100000 in
theorem chirp_parts.calls (k : Nat) (A0 : Option Addr) (c0 : Nat) (l0 : List Int) (a1 : Int) (r : List (List Int)) (w : World) (hr0 : Kd.C (Kd.int .u64) w A0 l0.length l0) (hc0 : l0.length ≤ c0) (h : chirp_parts.f k l0 a1 = some r) :
    Calls Tryd.prog 42 #[.slice A0 l0.length c0, .int .i64 a1] w fun e w' => ∃ v0_ : Value, e = .returned (v0_) ∧ Kd.S (Kd.slice 23 (Kd.int .u64)) 22 w' w.heap.size (fun _ => True) v0_ r ∧ Below w.heap.size w w' := by
  have HR0 := Aside0.mk hr0
  have HC0 := Aside0.mk hc0
  clear hr0 hc0
  have HB := Aside0.mk (Below.refl w.heap.size w)
  have H : (if 0 ≤ a1 then (if (a1 : Int).toNat ≤ 11728124029610 then (chirp_parts.l0 k a1 (List.replicate (a1 : Int).toNat []) l0 (l0.length : Int) 0) else (none)) else (none)) = some r := h
  clear h
  by_cases c3 : 0 ≤ a1
  · rw [if_pos c3] at H
    have c3b0 := eq_true c3
    have c3b1 : decide (0 ≤ a1) = true := decide_eq_true c3
    clear c3
    by_cases c4 : (a1 : Int).toNat ≤ 11728124029610
    · rw [if_pos c4] at H
      have c4b0 := eq_true c4
      have c4b1 : decide ((a1 : Int).toNat ≤ 11728124029610) = true := decide_eq_true c4
      clear c4
      obtain ⟨y240, hy240⟩ : ∃ y_ : List (List Int), y_ = (List.replicate (a1 : Int).toNat []) := ⟨_, rfl⟩
      replace H : (chirp_parts.l0 k a1 y240 l0 (l0.length : Int) 0) = some r := by first | (rw [hy240]; with_reducible exact H) | (have H2_ := (Option.bind_some _ _).symm.trans H; rw [hy240]; with_reducible exact H2_) | (have H2_ := (Option.bind_some _ _).symm.trans H; with_reducible exact H2_) | with_reducible exact H | (rw [hy240]; exact H) | exact H
      have Ny240 := Aside0.mk hy240
      clear hy240
      have H' := Aside0.mk H
      clear H
      go_enter Tryd.func42, Tryd.ntmps42
      go_wp2_with (first | ((with_reducible refine gate_dst (N := 9) rfl ?_); refine Kd.S_make (Kd.slice 23 (Kd.int .u64)) _ 22 rfl (N := 9) rfl 58 _ _ rfl a1 rfl rfl Tryd.underlying58 (.slice none 0 0) 24 info22 rfl (by decide) (by omega) [] (ok := fun _ => True) (okp := fun _ => True) ⟨_, rfl, Kd.R_nil _ _ _ _ _⟩ (fun _ hk => hk) trivial (of_decide_eq_true (by first | (with_reducible assumption) | assumption)) (Nat.le_trans (Nat.mul_le_mul_right _ (of_decide_eq_true (by first | (with_reducible assumption) | assumption) : a1.toNat ≤ 11728124029610)) (by omega)) (Below.refl _ _) (Nat.le_refl _) ?_; intro v241 w5 ho6 hb hg_ hnew_; clear hg_ hnew_; (first | rw [← Ny240.out] at ho6 | (simp only [Int.reduceToNat] at ho6; rw [← Ny240.out] at ho6)); have n0_ := Aside0.mk (Kd.S_lower ho6 (below_size (by repeat (first | (with_reducible first | exact HB.out | apply below_alloc | apply pw_below_drewN | apply below_drew1) | exact HB.out)))); have n1_ := Aside0.mk (below_step (by repeat (first | (with_reducible first | exact HB.out | apply below_alloc | apply pw_below_drewN | apply below_drew1) | exact HB.out)) hb); clear HB; have HO242 := n0_; have HB := n1_; clear n0_ n1_; clear hb ho6))
      go_loopg [12] k (fun kq v12 w' => ∃ (x5_1 : List (List Int)) (x12_1 : Int), v12 = .int .i64 x12_1 ∧ Aside0 (chirp_parts.l0 kq a1 x5_1 l0 (l0.length : Int) x12_1 = some r) ∧ Aside0 (kq ≤ k) ∧ Aside0 (Kd.S (Kd.slice 23 (Kd.int .u64)) 22 w' w.heap.size (fun _ => True) v241 x5_1) ∧ Aside0 (Below w.heap.size w w'))
      case atStart => exact ⟨(y240), (0), (by first | rfl | (simp; done) | (simp [*]; done)), H', ⟨Nat.le_refl _⟩, ⟨by (with_reducible repeat (first | apply Kd.S_alloc | apply Kd.S_drewN | apply Kd.S_drew)); exact HO242.out⟩, ⟨by repeat (first | (with_reducible first | exact HB.out | apply below_alloc | apply pw_below_drewN | apply below_drew1) | exact HB.out)⟩⟩
      case round =>
        clear H'
        try clear p2
        try clear c3
        try clear c3b0
        try clear c3b1
        try clear c4
        try clear c4b0
        try clear c4b1
        obtain ⟨x5_1, x12_1, rfl, HA, HK1, HO_5, HB⟩ := hrel
        cases gk with
        | zero => exact absurd HA.out (by simp [chirp_parts.l0])
        | succ k1 =>
          have H := HA.out
          clear HA
          simp only [chirp_parts.l0] at H
          by_cases c7 : x12_1 < (l0.length : Int)
          · rw [if_pos c7] at H
            have c7b0 : decide (x12_1 < (l0.length : Int)) = true := decide_eq_true c7
            clear c7
            by_cases c8 : 0 ≤ x12_1
            · rw [if_pos c8] at H
              have c8b0 : decide (0 ≤ x12_1) = true := decide_eq_true c8
              clear c8
              by_cases c9 : x12_1 < (l0.length : Int)
              · rw [if_pos c9] at H
                have c9b0 : decide (x12_1 < (l0.length : Int)) = true := decide_eq_true c9
                clear c9
                by_cases c10 : a1 = 0
                · rw [if_pos c10] at H
                  exact absurd H (by simp)
                · rw [if_neg c10] at H
                  have c10b0 : (a1 == 0) = false := beq_eq_false_iff_ne.mpr c10
                  have c10b1 : (a1 != 0) = true := bne_iff_ne.mpr c10
                  obtain ⟨ji11, hji11⟩ : ∃ j_ : Int, (Int.tmod x12_1 a1) = j_ := ⟨_, rfl⟩
                  replace H : (if 0 ≤ (ji11) then (if (ji11) < (x5_1.length : Int) then (if (rd_L1 x5_1 (ji11)).length < 17592186044416 then (chirp_parts.l0 k1 a1 (x5_1.set ((ji11) : Int).toNat ((rd_L1 x5_1 (ji11)) ++ [rd l0 x12_1])) l0 (l0.length : Int) (wrap64 (x12_1 + 1))) else (none)) else (none)) else (none)) = some r := by first | (rw [hji11] at H; exact H) | (simp only [hji11] at H ⊢; exact H)
                  by_cases c12 : 0 ≤ (ji11)
                  · rw [if_pos c12] at H
                    have c12b0 : decide (0 ≤ (ji11)) = true := decide_eq_true c12
                    clear c12
                    by_cases c13 : (ji11) < (x5_1.length : Int)
                    · rw [if_pos c13] at H
                      have c13b0 : decide ((ji11) < (x5_1.length : Int)) = true := decide_eq_true c13
                      clear c13
                      by_cases c14 : (rd_L1 x5_1 (ji11)).length < 17592186044416
                      · rw [if_pos c14] at H
                        have LMc14 := Aside0.mk c14
                        clear c14
                        obtain ⟨y245, hy245⟩ : ∃ y_ : List Int, y_ = ((rd_L1 x5_1 (ji11)) ++ [rd l0 x12_1]) := ⟨_, rfl⟩
                        replace H : (chirp_parts.l0 k1 a1 (x5_1.set ((ji11) : Int).toNat y245) l0 (l0.length : Int) (wrap64 (x12_1 + 1))) = some r := by first | (rw [hy245]; with_reducible exact H) | (have H2_ := (Option.bind_some _ _).symm.trans H; rw [hy245]; with_reducible exact H2_) | (have H2_ := (Option.bind_some _ _).symm.trans H; with_reducible exact H2_) | with_reducible exact H | (rw [hy245]; exact H) | exact H
                        have Ny245 := Aside0.mk hy245
                        clear hy245
                        obtain ⟨y248, hy248⟩ : ∃ y_ : List (List Int), y_ = (x5_1.set ((ji11) : Int).toNat y245) := ⟨_, rfl⟩
                        replace H : (chirp_parts.l0 k1 a1 y248 l0 (l0.length : Int) (wrap64 (x12_1 + 1))) = some r := by first | (rw [hy248]; with_reducible exact H) | (have H2_ := (Option.bind_some _ _).symm.trans H; rw [hy248]; with_reducible exact H2_) | (have H2_ := (Option.bind_some _ _).symm.trans H; with_reducible exact H2_) | with_reducible exact H | (rw [hy248]; exact H) | exact H
                        have Ny248 := Aside0.mk hy248
                        clear hy248
                        have H' := Aside0.mk H
                        clear H
                        have p243 : 0 ≤ (x12_1 : Int) := of_decide_eq_true (by first | (with_reducible assumption) | assumption)
                        have q243 : x12_1 < (l0.length : Int) := of_decide_eq_true (by first | (with_reducible assumption) | assumption)
                        obtain ⟨ad243, e243, hx243_0⟩ := Kd.at_int HR0.out x12_1 p243 q243
                        cases e243
                        replace hx243_0 := (HB.out.cell (World.block_lt_of_cell? w _ hx243_0)).trans hx243_0
                        replace p243 := eq_true p243
                        replace q243 := eq_true q243
                        try go_wp2
                        have n0_ := Aside0.mk (Kd.S_drew HO_5.out)
                        have n1_ := Aside0.mk (below_drew1 HB.out)
                        clear HO_5
                        clear HB
                        have HO_5 := n0_
                        have HB := n1_
                        clear n0_ n1_
                        obtain ⟨Ao17, co17, eo17⟩ := Kd.S_slice HO_5.out
                        (first | subst eo17 | (injection eo17 with f1_ f2_ f3_; have f4_ := f1_.symm; have f5_ := f3_.symm; clear f1_ f2_ f3_; subst f4_; subst f5_))
                        have p244 : 0 ≤ ((ji11) : Int) := of_decide_eq_true (by first | (with_reducible assumption) | assumption)
                        have q244 : (ji11) < (x5_1.length : Int) := of_decide_eq_true (by first | (with_reducible assumption) | assumption)
                        obtain ⟨ad244, A244_0, c244_0, e244, hx244_0, hl244_0, hi244_0⟩ := at_L1 (Kd.S_reads' HO_5.out).2.2 (ji11) p244 q244
                        cases e244
                        obtain ⟨ce244, hce244, hMe244, hcc244⟩ := Kd.S_get HO_5.out [] (ji11) p244 (by first | exact q244 | exact of_decide_eq_true (by first | (with_reducible assumption) | assumption) | (have e_ := (Kd.S_reads' HO_5.out).1; omega))
                        obtain ⟨ve244_0, rfl, ge244_0⟩ := hMe244
                        have hv244_0 := hcc244 0 _ rfl
                        rw [Nat.add_zero, show ((Kd.slice 23 (Kd.int .u64))).sz = 1 from rfl, Nat.mul_one] at hv244_0
                        replace hv244_0 := Option.some.inj (hv244_0.symm.trans hx244_0)
                        rw [hv244_0] at ge244_0
                        have HL244_0 := Aside0.mk (show Kd.R (Kd.int .u64) 23 _ _ _ _ (rd_L1 x5_1 (ji11)) from ge244_0)
                        clear hv244_0 ge244_0
                        have HX244_0 := Aside0.mk hx244_0
                        clear hcc244 hce244
                        have HR244_0 := Aside0.mk hi244_0
                        have HC244_0 := Aside0.mk hl244_0
                        clear hi244_0 hl244_0
                        replace p244 := eq_true p244
                        replace q244 := eq_true q244
                        obtain ⟨go18, co18, eo18, gb18, gl18, cl18, HG18⟩ := Kd.S_form HO_5.out (by have h_ : ((ji11) : Int) < ((x5_1.length : Int) : Int) := of_decide_eq_true (by first | (with_reducible assumption) | assumption); have h2_ : 0 ≤ ((ji11) : Int) := (of_decide_eq_true (by first | (with_reducible assumption) | assumption)); omega)
                        (first | cases eo18 | (injection eo18 with ea_ en_ ec_; (first | subst ea_ | (injection ea_ with ea_; subst ea_)); subst ec_; clear en_))
                        have GB18 := Aside0.mk gb18
                        have GG18 := Aside0.mk HG18
                        clear gb18 gl18 HG18
                        (first | simp only [add_plain] at hx244_0 | skip)
                        obtain ⟨oki18, ce18, hcl18, hM18, hcc18, _, _, hH18⟩ := Kd.S_elem HO_5.out [] ((ji11) : Int) (of_decide_eq_true (by first | (with_reducible assumption) | assumption)) (by have h_ : ((ji11) : Int) < ((x5_1.length : Int) : Int) := of_decide_eq_true (by first | (with_reducible assumption) | assumption); first | exact h_ | (have e_ := (Kd.S_reads' HO_5.out).1; omega) | simpa using h_)
                        obtain ⟨ve18_0, rfl, ge18_0⟩ := hM18
                        have hv18 := hcc18 0 _ rfl
                        have hX18 := HX244_0.out
                        (try simp only [add_plain] at hX18)
                        (try simp only [Nat.add_zero] at hv18)
                        (try rw [show ((Kd.slice 23 (Kd.int .u64))).sz = 1 from rfl, Nat.mul_one] at hv18)
                        replace hv18 := Option.some.inj (hv18.symm.trans hX18)
                        subst hv18
                        clear hX18 hcc18 hcl18
                        have UU18 := Aside0.mk (show Kd.R (Kd.int .u64) 23 _ w.heap.size oki18 (.slice A244_0 (rd_L1 x5_1 (ji11)).length c244_0) (rd_L1 x5_1 (ji11)) from ge18_0)
                        have HH18 := Aside0.mk hH18
                        have HN18 := Aside0.mk (Kd.S_reads' HO_5.out).1
                        clear hH18 ge18_0
                        refine start_ (n := 15) (S := fun w' => w'.cell? ⟨go18, ((ji11)).toNat, none⟩ = some (.slice A244_0 (rd_L1 x5_1 (ji11)).length c244_0)) (ds := [14]) #[false, false, false, false, false, false, false, false, false, false, false, false, false, false, false] (by kernel_rfl) rfl rfl (hx244_0) (fun hHeld => ?_); refine with_tabW chirp_parts.tab5 chirp_parts.bits5 (fun HT_ HW_ => ?_)
                        generalize wr.drew = w16 at HO_5 HB GG18 HH18 HL244_0 HR244_0 HX244_0 UU18 hx244_0 hHeld ⊢
                        refine pure_ (i := 0) (N := some 17) (v := ?_) (a' := ?_) #[true, false, false, false, false, false, false, false, false, false, false, false, false, false, false] rfl rfl (any_of HT_.out (by kernel_rfl)) (fun _ _ _ h => h) (Or.inl ⟨by rfl, ?_⟩) ?_ ?_
                        rotate_left
                        · intro w'
                          go_simp
                          with_reducible rfl
                        rotate_left
                        · simp only [Act.put, List.setIfInBounds_toArray, List.set_cons_zero, List.set_cons_succ, i64_w, i32_w]
                          rfl
                        refine pure_ (i := 1) (N := some 18) (v := ?_) (a' := ?_) #[true, true, false, false, false, false, false, false, false, false, false, false, false, false, false] rfl rfl (any_of HT_.out (by kernel_rfl)) (fun _ _ _ h => h) (Or.inl ⟨by rfl, ?_⟩) ?_ ?_
                        rotate_left
                        · intro w'
                          go_simp
                          with_reducible rfl
                        rotate_left
                        · simp only [Act.put, List.setIfInBounds_toArray, List.set_cons_zero, List.set_cons_succ, i64_w, i32_w]
                          rfl
                        refine pure_ (i := 2) (N := some 19) (v := ?_) (a' := ?_) #[true, true, true, false, false, false, false, false, false, false, false, false, false, false, false] rfl rfl (any_of HT_.out (by kernel_rfl)) (fun _ _ _ h => h) (Or.inl ⟨by rfl, ?_⟩) ?_ ?_
                        rotate_left
                        · intro w'
                          go_simp
                          with_reducible rfl
                        rotate_left
                        · simp only [Act.put, List.setIfInBounds_toArray, List.set_cons_zero, List.set_cons_succ, i64_w, i32_w]
                          rfl
                        refine pure_ (i := 3) (N := some 20) (v := ?_) (a' := ?_) #[true, true, true, true, false, false, false, false, false, false, false, false, false, false, false] rfl rfl (any_of HT_.out (by kernel_rfl)) (fun _ _ _ h => h) (Or.inl ⟨by rfl, ?_⟩) ?_ ?_
                        rotate_left
                        · intro w'
                          go_simp
                          with_reducible rfl
                        rotate_left
                        · simp only [Act.put, List.setIfInBounds_toArray, List.set_cons_zero, List.set_cons_succ, i64_w, i32_w]
                          rfl
                        refine pure_ (i := 4) (N := some 21) (v := ?_) (a' := ?_) #[true, true, true, true, true, false, false, false, false, false, false, false, false, false, false] rfl rfl (any_of HT_.out (by kernel_rfl)) (fun _ _ _ h => h) (Or.inl ⟨by rfl, ?_⟩) ?_ ?_
                        rotate_left
                        · intro w'
                          go_simp
                          with_reducible rfl
                        rotate_left
                        · simp only [Act.put, List.setIfInBounds_toArray, List.set_cons_zero, List.set_cons_succ, i64_w, i32_w]
                          rfl
                        refine pure_ (i := 5) (N := some 22) (v := ?_) (a' := ?_) #[true, true, true, true, true, true, false, false, false, false, false, false, false, false, false] rfl rfl (any_of HT_.out (by kernel_rfl)) (fun _ _ _ h => h) (Or.inl ⟨by rfl, ?_⟩) ?_ ?_
                        rotate_left
                        · intro w'
                          go_simp
                          with_reducible rfl
                        rotate_left
                        · simp only [Act.put, List.setIfInBounds_toArray, List.set_cons_zero, List.set_cons_succ, i64_w, i32_w]
                          rfl
                        refine pure_ (i := 6) (N := some 23) (v := ?_) (a' := ?_) #[true, true, true, true, true, true, true, false, false, false, false, false, false, false, false] rfl rfl (any_of HT_.out (by kernel_rfl)) (fun _ _ _ h => h) (Or.inl ⟨by rfl, ?_⟩) ?_ ?_
                        rotate_left
                        · intro w'
                          go_simp
                          with_reducible rfl
                        rotate_left
                        · simp only [Act.put, List.setIfInBounds_toArray, List.set_cons_zero, List.set_cons_succ, i64_w, i32_w]
                          rfl
                        refine pure_ (i := 7) (N := some 24) (v := ?_) (a' := ?_) #[true, true, true, true, true, true, true, true, false, false, false, false, false, false, false] rfl rfl (any_of HT_.out (by kernel_rfl)) (fun _ _ _ h => h) (Or.inl ⟨by rfl, ?_⟩) ?_ ?_
                        rotate_left
                        · intro w'
                          go_simp
                          with_reducible rfl
                        rotate_left
                        · simp only [Act.put, List.setIfInBounds_toArray, List.set_cons_zero, List.set_cons_succ, i64_w, i32_w]
                          rfl
                        refine pure_ (i := 8) (N := some 25) (v := ?_) (a' := ?_) #[true, true, true, true, true, true, true, true, true, false, false, false, false, false, false] rfl rfl (any_of HT_.out (by kernel_rfl)) (fun _ _ _ h => h) (Or.inl ⟨by rfl, ?_⟩) ?_ ?_
                        rotate_left
                        · intro w'
                          go_simp
                          with_reducible rfl
                        rotate_left
                        · simp only [Act.put, List.setIfInBounds_toArray, List.set_cons_zero, List.set_cons_succ, i64_w, i32_w]
                          rfl
                        refine pure_ (i := 10) (N := some 27) (v := ?_) (a' := ?_) #[true, true, true, true, true, true, true, true, true, false, true, false, false, false, false] rfl rfl (any_of HT_.out (by kernel_rfl)) (fun _ _ _ h => h) (Or.inl ⟨by rfl, ?_⟩) ?_ ?_
                        rotate_left
                        · intro w'
                          go_simp
                          with_reducible rfl
                        rotate_left
                        · simp only [Act.put, List.setIfInBounds_toArray, List.set_cons_zero, List.set_cons_succ, i64_w, i32_w]
                          rfl
                        refine take_ (i := 9) (N := some 26) (v := ?_) (a' := ?_) #[true, true, true, true, true, true, true, true, true, true, true, false, false, false, false] rfl rfl (take_ofW HT_.out HW_.out (by kernel_rfl)) (fun _ _ _ h => h) (Or.inl ⟨by rfl, ?_⟩) hHeld ?_ ?_
                        rotate_left
                        · intro w' s0
                          go_simp
                          with_reducible rfl
                        rotate_left
                        · simp only [Act.put, List.setIfInBounds_toArray, List.set_cons_zero, List.set_cons_succ, i64_w, i32_w]
                          rfl
                        refine one_ (i := 11) (N := some 28) #[true, true, true, true, true, true, true, true, true, true, true, true, false, false, false] rfl rfl (one_of HT_.out (by kernel_rfl)) (by decide) (fun K hK => ?_)
                        refine value_ (w1 := ?_) (v := ?_) (by rfl) rfl ?_ ?_
                        rotate_left 2
                        · go_simp
                          constructor
                          · rfl
                          · rfl
                        refine hK.out _ _ ((World.cell?_alloc_lt _ _ _ (World.block_lt_of_cell? _ _ (hHeld))).trans (hHeld)) (fun hHeld => ?_)
                        clear hK K
                        refine norm_ (a' := ?_) ?_ ?_
                        rotate_left
                        · show Act.put _ (some 28) _ = _
                          simp only [Act.put, List.setIfInBounds_toArray, List.set_cons_zero, List.set_cons_succ, i64_w, i32_w]
                          rfl
                        refine one_ (i := 12) (N := some 29) #[true, true, true, true, true, true, true, true, true, true, true, true, true, false, false] rfl rfl (one_of HT_.out (by kernel_rfl)) (by decide) (fun K hK => ?_)
                        refine Kd.R_append_step (Kd.int .u64) (w0 := w) w.heap.size (by rfl) (.tmp 26) (.tmp 28) 22 23 (.int .u64 0) 8 rfl Tryd.underlying22 info23 rfl (by decide) (by omega) (.slice A244_0 (rd_L1 x5_1 (ji11)).length c244_0) (rd_L1 x5_1 (ji11)) (rd l0 x12_1) [.int .u64 (rd l0 x12_1)] (fun k_ => oki18 k_ ∨ ((fun _ => True)) k_ ∧ w16.heap.size ≤ k_) (fun _ => False) rfl rfl ?aP (fun _ hk => hk.elim) ?aF ?aO ?aB ?aS ?aL ?_
                        (case aP => exact rfl)
                        (case aB => exact (by repeat (first | (with_reducible first | exact HB.out | apply below_alloc | apply pw_below_drewN | apply below_drew1) | exact HB.out)))
                        (case aF => exact (fun k_ hk => .inr ⟨trivial, hk⟩))
                        (case aO => exact (by (with_reducible repeat (first | apply Kd.R_alloc | apply Kd.R_drewN | apply Kd.R_drew)); exact Kd.R_mono UU18.out (fun _ hk => .inl hk)))
                        (case aS => exact (below_size (by repeat (first | (with_reducible first | exact HB.out | apply below_alloc | apply pw_below_drewN | apply below_drew1) | exact HB.out))))
                        (case aL => have := LMc14.out; omega)
                        intro v246 w19 ho hb hg hat
                        (first | have HS0_ := cell_grown hg (hHeld) (by first | (rw [add_block]; exact (fun e_ => ((HL244_0.out.1 _ e_.symm).2) rfl)) | (show some (Addr.add _ _).block ≠ _; rw [add_block]; exact (fun e_ => ((HL244_0.out.1 _ e_.symm).2) rfl)) | exact (fun e_ => ((HL244_0.out.1 _ e_.symm).2) rfl)) | have HS0_ := cell_grown hg (cell_unalloc (hHeld) (by first | (rw [add_block]; exact Kd.S_lt HO_5.out _ rfl) | (show (Addr.add _ _).block < _; rw [add_block]; exact Kd.S_lt HO_5.out _ rfl) | exact Kd.S_lt HO_5.out _ rfl)) (by first | (rw [add_block]; exact (fun e_ => ((HL244_0.out.1 _ e_.symm).2) rfl)) | (show some (Addr.add _ _).block ≠ _; rw [add_block]; exact (fun e_ => ((HL244_0.out.1 _ e_.symm).2) rfl)) | exact (fun e_ => ((HL244_0.out.1 _ e_.symm).2) rfl)))
                        rw [← Ny245.out] at ho
                        have n0_ := Aside0.mk (hb)
                        have n1_ := Aside0.mk (Kd.H_grown (Kd.H_widen (by repeat (first | exact HH18.out | refine Kd.H_alloc ?_ _ | refine Kd.H_drewN ?_ _ | refine Kd.H_drew ?_))) hg (fun k_ e_ => .inl (UU18.out.1 k_ e_)))
                        have n2_ := Aside0.mk (ho)
                        clear HB
                        clear HH18
                        clear HO_5
                        clear UU18
                        clear HL244_0
                        have HB := n0_
                        have HH18 := n1_
                        have HO247 := n2_
                        clear n0_ n1_ n2_
                        clear ho hb hg hat
                        have p15 : 0 ≤ ((ji11) : Int) := of_decide_eq_true (by first | (with_reducible assumption) | assumption)
                        have q15 : ((ji11) : Int) < ((x5_1.length : Int) : Int) := of_decide_eq_true (by first | (with_reducible assumption) | assumption)
                        replace p15 := eq_true p15
                        replace q15 := eq_true q15
                        obtain ⟨Ao22, co22, eo22⟩ := Kd.R_slice HO247.out
                        (first | subst eo22 | (injection eo22 with f1_ f2_ f3_; have f4_ := f1_.symm; have f5_ := f3_.symm; clear f1_ f2_ f3_; subst f4_; subst f5_))
                        obtain ⟨_, _, hraw20, _, _, hcc20, _⟩ := Kd.H_raw HH18.out (of_decide_eq_true (by first | (with_reducible assumption) | assumption)) (by have h_ : ((ji11) : Int) < ((x5_1.length : Int) : Int) := of_decide_eq_true (by first | (with_reducible assumption) | assumption); first | exact h_ | (have e_ := (HN18.out); omega) | simpa using h_)
                        obtain ⟨_, hfr20⟩ := Kd.H_at HH18.out (of_decide_eq_true (by first | (with_reducible assumption) | assumption)) (by have h_ : ((ji11) : Int) < ((x5_1.length : Int) : Int) := of_decide_eq_true (by first | (with_reducible assumption) | assumption); first | exact h_ | (have e_ := (HN18.out); omega) | simpa using h_)
                        have hx20_0 := hcc20 0 _ rfl
                        have hf20_0 := hfr20 0
                        (try simp only [Nat.add_zero] at hx20_0 hf20_0)
                        (try rw [show ((Kd.slice 23 (Kd.int .u64))).sz = 1 from rfl, Nat.mul_one] at hx20_0)
                        (try rw [show ((Kd.slice 23 (Kd.int .u64))).sz = 1 from rfl, Nat.mul_one] at hf20_0)
                        have HP20 := Kd.S_seg0 HH18.out (of_decide_eq_true (by first | (with_reducible assumption) | assumption)) (by have h_ : ((ji11) : Int) < ((x5_1.length : Int) : Int) := of_decide_eq_true (by first | (with_reducible assumption) | assumption); first | exact h_ | (have e_ := (HN18.out); omega) | simpa using h_) (seg := [.slice Ao22 y245.length co22]) (j := 0) (show 1 ≤ 1 from by decide) (x' := y245) (Kd.M_row HO247.out) (fun _ hk => hk)
                        (try simp only [show ((Kd.slice 23 (Kd.int .u64))).sz = 1 from rfl, Nat.mul_one, Nat.add_zero] at HP20)
                        clear hcc20 hfr20
                        have HS20 := HP20.1
                        rw [← Ny248.out] at HS20
                        have HQ20 := Aside0.mk HS20
                        obtain ⟨_, hgg20⟩ := Kd.R_typed hraw20 go18 rfl
                        have GG20_ := Aside0.mk hgg20
                        clear HP20 HS20 hgg20
                        refine hK.out _ _ (HS0_) (fun hHeld => ?_)
                        clear hK K
                        refine norm_ (a' := ?_) ?_ ?_
                        rotate_left
                        · show Act.put _ (some 29) _ = _
                          simp only [Act.put, List.setIfInBounds_toArray, List.set_cons_zero, List.set_cons_succ, i64_w, i32_w]
                          rfl
                        refine pure_ (i := 13) (N := some 30) (v := ?_) (a' := ?_) #[true, true, true, true, true, true, true, true, true, true, true, true, true, true, false] rfl rfl (any_of HT_.out (by kernel_rfl)) (fun _ _ _ h => h) (Or.inl ⟨by rfl, ?_⟩) ?_ ?_
                        rotate_left
                        · intro w'
                          go_simp
                          with_reducible rfl
                        rotate_left
                        · simp only [Act.put, List.setIfInBounds_toArray, List.set_cons_zero, List.set_cons_succ, i64_w, i32_w]
                          rfl
                        refine last_ (i := 14) (N := none) #[true, true, true, true, true, true, true, true, true, true, true, true, true, true, true] rfl rfl (one_of HT_.out (by kernel_rfl)) (by decide) (fun K hK => ?_)
                        refine skip_ (w1 := ?_) (by rfl) rfl ?_ ?_
                        rotate_left
                        · go_simp
                          rfl
                        refine hK.out _ _ ?_
                        clear hK K
                        refine done_ (done_of HT_.out (by kernel_rfl)) ?_
                        try go_wp2
                        (first | go_roundg k1 | (simp only [add_plain] at *; go_roundg k1))
                        case measure => have := HK1.out; omega
                        case rel => exact ⟨(y248), (wrap64 (x12_1 + 1)), (by first | rfl | (simp; done) | (simp [*]; done)), H', ⟨by have := HK1.out; omega⟩, ⟨by (with_reducible repeat (first | apply Kd.S_alloc | apply Kd.S_drewN | apply Kd.S_drew)); exact HQ20.out⟩, ⟨by repeat (first | (with_reducible first | exact HB.out | apply below_alloc | apply pw_below_drewN | apply below_drew1 | refine below_set ?_ GB18.out) | exact HB.out)⟩⟩
                      · rw [if_neg c14] at H
                        exact absurd H (by simp)
                    · rw [if_neg c13] at H
                      exact absurd H (by simp)
                  · rw [if_neg c12] at H
                    exact absurd H (by simp)
              · rw [if_neg c9] at H
                exact absurd H (by simp)
            · rw [if_neg c8] at H
              exact absurd H (by simp)
          · rw [if_neg c7] at H
            have c7b0 : decide (x12_1 < (l0.length : Int)) = false := decide_eq_false c7
            clear c7
            obtain rfl := Option.some.inj H
            go_wp2
            go_ret
            exact ⟨_, by first | rfl | (simp [errW_none, errW_some] <;> rfl) | (simp [*, errW_none, errW_some] <;> rfl), by (with_reducible repeat (first | apply Kd.S_alloc | apply Kd.S_drewN | apply Kd.S_drew)); exact HO_5.out, by repeat (first | (with_reducible first | exact HB.out | apply below_alloc | apply pw_below_drewN | apply below_drew1) | exact HB.out)⟩
    · rw [if_neg c4] at H
      exact absurd H (by simp)
  · rw [if_neg c3] at H
    exact absurd H (by simp)

end Go.Proofs.YtnmjomcpkckihaaDoor.PChirpRuns
