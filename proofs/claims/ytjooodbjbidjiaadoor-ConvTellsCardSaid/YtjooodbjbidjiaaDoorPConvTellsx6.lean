-- Written for this claim by wip/gen/mk.sh, this session's own driver over the kit's print
import Derived.Test.YtjooodbjbidjiaaDoorPConvTellsx0
import Derived.Test.YtjooodbjbidjiaaDoorPConvTellsx1
import Derived.Test.YtjooodbjbidjiaaDoorPConvTellsx3
import Derived.Test.YtjooodbjbidjiaaDoorPConvTellsx4
import Derived.Test.YtjooodbjbidjiaaDoorPConvTellsx5
namespace Go.Proofs.YtjooodbjbidjiaaDoor.PConvTells
open Go.RowKit Go.Proofs.YtjooodbjbidjiaaDoorW.PrintWords Go.Proofs.YtjooodbjbidjiaaDoorW.PrintLast Go.Proofs.YtjooodbjbidjiaaDoorW.PrintMore
attribute [local go_sem] max2_int min2_int max_two min_two max_three min_three max_four min_four   -- for this text's walks alone
set_option linter.unusedVariables false
set_option linter.unusedSimpArgs false

/-! ### slices_Reverse_uint64_uint64: function 27 -/
def slices_Reverse_uint64_uint64.l0 : Nat → List Int → Int → Int → Option (List Int)
  | 0, _, _, _ => none
  | k + 1, x0, x2, x3 => if x2 < x3 then (if 0 ≤ x3 then (if x3 < (x0.length : Int) then (if 0 ≤ x2 then (if x2 < (x0.length : Int) then (slices_Reverse_uint64_uint64.l0 k ((x0.set (x2 : Int).toNat (rd x0 x3)).set (x3 : Int).toNat (rd x0 x2)) (wrap64 (x2 + 1)) (wrap64 (x3 - 1))) else (none)) else (none)) else (none)) else (none)) else (some x0)
def slices_Reverse_uint64_uint64.f (k : Nat) (l0 : List Int) : Option (List Int) := slices_Reverse_uint64_uint64.l0 k l0 0 (wrap64 ((l0.length : Int) - 1))
theorem slices_Reverse_uint64_uint64.mono_l : ∀ k, (∀ y0 y1 y2, LeO (slices_Reverse_uint64_uint64.l0 k y0 y1 y2) (slices_Reverse_uint64_uint64.l0 (k + 1) y0 y1 y2))
  | 0 => fun _ _ _ r h => by simp [slices_Reverse_uint64_uint64.l0] at h
  | k + 1 => by
    have ih0 := slices_Reverse_uint64_uint64.mono_l k
    · intro y0 y1 y2
      unfold slices_Reverse_uint64_uint64.l0
      repeat' first
      | (with_reducible exact ih0 _ _ _)
      | (with_reducible exact LeO.refl _)
      | (with_reducible exact LeO.none _)
      | (with_reducible refine LeO.ite ?_ ?_)
      | (with_reducible refine LeO.bind ?_ (fun _ => ?_))
      | exact ih0 _ _ _
      | exact LeO.none _
      | refine LeO.ite ?_ ?_
      | refine LeO.bind ?_ (fun _ => ?_)
theorem slices_Reverse_uint64_uint64.mono : ∀ a0 k, LeO (slices_Reverse_uint64_uint64.f k a0) (slices_Reverse_uint64_uint64.f (k + 1) a0) := by
  intro a0 k
  have ih0 := slices_Reverse_uint64_uint64.mono_l k
  unfold slices_Reverse_uint64_uint64.f
  repeat' first
      | (with_reducible exact ih0 _ _ _)
      | (with_reducible exact LeO.refl _)
      | (with_reducible exact LeO.none _)
      | (with_reducible refine LeO.ite ?_ ?_)
      | (with_reducible refine LeO.bind ?_ (fun _ => ?_))
      | exact ih0 _ _ _
      | exact LeO.none _
      | refine LeO.ite ?_ ?_
      | refine LeO.bind ?_ (fun _ => ?_)
def slices_Reverse_uint64_uint64.T3 : Bool × List (List Nat × List Nat) := (true, [([], []), ([], []), ([], []), ([], []), ([], []), ([], []), ([4, 5], [4, 5]), ([6], [6]), ([], []), ([], []), ([8, 9], [8, 9]), ([10], [10]), ([0, 1, 0, 1, 4, 5, 6, 7, 11], [0, 1]), ([12, 7, 0, 1, 4, 5, 6, 7, 11], [7, 12]), ([2, 3, 0, 1, 2, 3, 4, 5, 6, 7, 8, 9, 10, 11, 12, 13], [2, 3]), ([14, 11, 13, 0, 1, 2, 3, 4, 5, 6, 7, 8, 9, 10, 11, 12, 13], [11, 14])])
def slices_Reverse_uint64_uint64.B3 : List Nat := [0, 0, 0, 0, 0, 0, 48, 112, 0, 0, 768, 1792, 4083, 8179, 16383, 32767]
theorem slices_Reverse_uint64_uint64.tab3 : rtab .any (opsOf Tryd.f27 3) = slices_Reverse_uint64_uint64.T3 := by kernel_rfl
theorem slices_Reverse_uint64_uint64.bits3 : waitsOk slices_Reverse_uint64_uint64.T3.2 slices_Reverse_uint64_uint64.B3 = true := by kernel_rfl
set_option maxHeartbeats 8000000 in
set_option maxRecDepth 100000 in
theorem slices_Reverse_uint64_uint64.calls (k : Nat) (P0_ : Nat → Prop) (u9000_ : Value) (l0 : List Int) (r : List Int) (w0 w : World) (hB : Below w0.heap.size w0 w) (ho0 : Kd.R (Kd.int .u64) 28 w w0.heap.size P0_ u9000_ l0) (h : slices_Reverse_uint64_uint64.f k l0 = some r) :
    Calls Tryd.prog 27 #[u9000_] w fun e w' => e = .returned (.tuple #[]) ∧ Kd.R (Kd.int .u64) 28 w' w0.heap.size (fun k_ => (P0_ k_ ∨ w.heap.size ≤ k_)) u9000_ r ∧ Below w0.heap.size w0 w' ∧ Kept w w' (fun k_ => P0_ k_) := by
  have HO0 := Aside0.mk (show Kd.R (Kd.int .u64) 28 w w0.heap.size (fun k_ => (P0_ k_ ∨ w.heap.size ≤ k_)) u9000_ l0 from Kd.R_mono ho0 (fun k_ hk => (.inl hk)))
  have HK := Aside0.mk (Kept.refl w (fun k_ => P0_ k_))
  have HW0 := Aside0.mk hB.size
  have HB := Aside0.mk hB
  clear hB
  have H : (slices_Reverse_uint64_uint64.l0 k l0 0 (wrap64 ((l0.length : Int) - 1))) = some r := h
  clear h
  have H' := Aside0.mk H
  clear H
  obtain ⟨Ao2, co2, eo2⟩ := Kd.R_slice HO0.out
  subst eo2
  go_enter Tryd.func27, Tryd.ntmps27
  go_wp2
  go_loopg [2, 3] k (fun kq v2 v3 w' => ∃ (x0_1 : List Int) (x2_1 : Int) (x3_1 : Int), v2 = .int .i64 x2_1 ∧ v3 = .int .i64 x3_1 ∧ Aside0 (slices_Reverse_uint64_uint64.l0 kq x0_1 x2_1 x3_1 = some r) ∧ Aside0 (kq ≤ k) ∧ Aside0 (Kd.R (Kd.int .u64) 28 w' w0.heap.size (fun k_ => (P0_ k_ ∨ w.heap.size ≤ k_)) (.slice Ao2 l0.length co2) x0_1) ∧ Aside0 (Kept w w' (fun k_ => P0_ k_)) ∧ Aside0 (Below w0.heap.size w0 w'))
  case atStart => exact ⟨(l0), (0), (wrap64 ((l0.length : Int) - 1)), (by first | rfl | (simp; done) | (simp [*]; done)), (by first | rfl | (simp; done) | (simp [*]; done)), H', ⟨Nat.le_refl _⟩, ⟨by (with_reducible repeat (first | apply Kd.R_alloc | apply Kd.R_drewN | apply Kd.R_drew)); exact HO0.out⟩, ⟨by repeat (first | (with_reducible first | exact HK.out | apply Kept.alloc | apply Kept.drewN | apply Kept.drew) | exact HK.out)⟩, ⟨by repeat (first | (with_reducible first | exact HB.out | apply below_alloc | apply pw_below_drewN | apply below_drew1) | exact HB.out)⟩⟩
  case round =>
    clear H'
    try clear c2
    try clear p2
    obtain ⟨x0_1, x2_1, x3_1, rfl, rfl, HA, HK1, HO_0, HK, HB⟩ := hrel
    have hl0_1 := (Kd.R_reads' HO_0.out).1
    rw [hl0_1] at HO_0
    (try simp only [hl0_1])
    cases gk with
    | zero => exact absurd HA.out (by simp [slices_Reverse_uint64_uint64.l0])
    | succ k1 =>
      have H := HA.out
      clear HA
      simp only [slices_Reverse_uint64_uint64.l0] at H
      by_cases c3 : x2_1 < x3_1
      · rw [if_pos c3] at H
        have c3b0 : decide (x2_1 < x3_1) = true := decide_eq_true c3
        clear c3
        by_cases c4 : 0 ≤ x3_1
        · rw [if_pos c4] at H
          have c4b0 : decide (0 ≤ x3_1) = true := decide_eq_true c4
          clear c4
          by_cases c5 : x3_1 < (x0_1.length : Int)
          · rw [if_pos c5] at H
            have c5b0 : decide (x3_1 < (x0_1.length : Int)) = true := decide_eq_true c5
            (try (have c5b0_0 := c5b0; simp only [hl0_1] at c5b0_0))
            clear c5
            by_cases c6 : 0 ≤ x2_1
            · rw [if_pos c6] at H
              have c6b0 : decide (0 ≤ x2_1) = true := decide_eq_true c6
              clear c6
              by_cases c7 : x2_1 < (x0_1.length : Int)
              · rw [if_pos c7] at H
                have c7b0 : decide (x2_1 < (x0_1.length : Int)) = true := decide_eq_true c7
                (try (have c7b0_0 := c7b0; simp only [hl0_1] at c7b0_0))
                clear c7
                obtain ⟨y255, hy255⟩ : ∃ y_ : List Int, y_ = (x0_1.set (x2_1 : Int).toNat (rd x0_1 x3_1)) := ⟨_, rfl⟩
                replace H : (slices_Reverse_uint64_uint64.l0 k1 (y255.set (x3_1 : Int).toNat (rd x0_1 x2_1)) (wrap64 (x2_1 + 1)) (wrap64 (x3_1 - 1))) = some r := by first | (rw [hy255]; with_reducible exact H) | (have H2_ := (Option.bind_some _ _).symm.trans H; rw [hy255]; with_reducible exact H2_) | (have H2_ := (Option.bind_some _ _).symm.trans H; with_reducible exact H2_) | with_reducible exact H | (rw [hy255]; exact H) | exact H
                have Ny255 := Aside0.mk hy255
                clear hy255
                obtain ⟨y256, hy256⟩ : ∃ y_ : List Int, y_ = (y255.set (x3_1 : Int).toNat (rd x0_1 x2_1)) := ⟨_, rfl⟩
                replace H : (slices_Reverse_uint64_uint64.l0 k1 y256 (wrap64 (x2_1 + 1)) (wrap64 (x3_1 - 1))) = some r := by first | (rw [hy256]; with_reducible exact H) | (have H2_ := (Option.bind_some _ _).symm.trans H; rw [hy256]; with_reducible exact H2_) | (have H2_ := (Option.bind_some _ _).symm.trans H; with_reducible exact H2_) | with_reducible exact H | (rw [hy256]; exact H) | exact H
                have Ny256 := Aside0.mk hy256
                clear hy256
                have H' := Aside0.mk H
                clear H
                try go_wp2
                have n0_ := Aside0.mk (Kd.R_drew HO_0.out)
                have n1_ := Aside0.mk (Kept.drew HK.out)
                have n2_ := Aside0.mk (below_drew1 HB.out)
                clear HO_0
                clear HK
                clear HB
                have HO_0 := n0_
                have HK := n1_
                have HB := n2_
                clear n0_ n1_ n2_
                have p253 : 0 ≤ (x3_1 : Int) := of_decide_eq_true (by first | (with_reducible assumption) | assumption)
                have q253 : x3_1 < (x0_1.length : Int) := of_decide_eq_true (by first | (with_reducible assumption) | assumption)
                (try (first | (have hq_ := Kd.R_reads' HO_0.out; clear hq_) | (obtain ⟨AoQ253, coQ253, eoQ253⟩ := Kd.R_slice HO_0.out; subst eoQ253)))
                obtain ⟨ad253, e253, hx253_0⟩ := Kd.at_int (Kd.R_reads' HO_0.out).2.2 x3_1 p253 q253
                cases e253
                replace p253 := eq_true p253
                replace q253 := eq_true q253
                have p254 : 0 ≤ (x2_1 : Int) := of_decide_eq_true (by first | (with_reducible assumption) | assumption)
                have q254 : x2_1 < (x0_1.length : Int) := of_decide_eq_true (by first | (with_reducible assumption) | assumption)
                obtain ⟨ad254, e254, hx254_0⟩ := Kd.at_int (Kd.R_reads' HO_0.out).2.2 x2_1 p254 q254
                obtain rfl : ad253 = ad254 := (by injection e254)
                replace p254 := eq_true p254
                replace q254 := eq_true q254
                have p8 : 0 ≤ (x2_1 : Int) := of_decide_eq_true (by first | (with_reducible assumption) | assumption)
                have q8 : (x2_1 : Int) < ((x0_1.length : Int) : Int) := of_decide_eq_true (by first | (with_reducible assumption) | assumption)
                obtain ⟨go8, co8, eo8, gb8, gl8, cl8, HG8⟩ := Kd.R_form HO_0.out (by omega)
                (first | cases eo8 | (injection eo8 with ea_ en_ ec_; (first | subst ea_ | (injection ea_ with ea_; subst ea_)); subst ec_; clear en_))
                have GB8 := Aside0.mk gb8
                have GG8 := Aside0.mk HG8
                clear gb8 gl8 HG8
                have HMgo8 := Aside0.mk (show (P0_ go8 ∨ w.heap.size ≤ go8) from (HO_0.out.1 _ rfl))
                (first | simp only [add_plain] at hx253_0 | skip)
                (first | simp only [add_plain] at hx254_0 | skip)
                obtain ⟨hx8_0, hf8_0⟩ := Kd.R_celln 0 HO_0.out (x2_1 : Int) p8 q8
                replace p8 := eq_true p8
                replace q8 := eq_true q8
                have HP11 := Kd.R_putn HO_0.out (x2_1 : Int) (rd x0_1 x3_1)
                rw [← Ny255.out] at HP11
                have HQ11 := Aside0.mk HP11
                clear HP11
                have p9 : 0 ≤ (x3_1 : Int) := of_decide_eq_true (by first | (with_reducible assumption) | assumption)
                have q9 : (x3_1 : Int) < ((x0_1.length : Int) : Int) := of_decide_eq_true (by first | (with_reducible assumption) | assumption)
                obtain ⟨hx9_0, hf9_0⟩ := Kd.R_celln 0 HQ11.out (x3_1 : Int) p9 q9
                replace p9 := eq_true p9
                replace q9 := eq_true q9
                have HP12 := Kd.R_putn HQ11.out (x3_1 : Int) (rd x0_1 x2_1)
                rw [← Ny256.out] at HP12
                have HQ12 := Aside0.mk HP12
                clear HP12
                refine start_ (n := 16) (S := fun w' => w'.cell? ⟨go8, (x3_1).toNat, none⟩ = some (.int .u64 (rd x0_1 x3_1)) ∧ w'.cell? ⟨go8, (x2_1).toNat, none⟩ = some (.int .u64 (rd x0_1 x2_1))) (ds := [13, 15]) #[false, false, false, false, false, false, false, false, false, false, false, false, false, false, false, false] (by kernel_rfl) rfl rfl ⟨hx253_0, hx254_0⟩ (fun hHeld => ?_); refine with_tabW slices_Reverse_uint64_uint64.tab3 slices_Reverse_uint64_uint64.bits3 (fun HT_ HW_ => ?_)
                generalize wr.drew = w10 at HO_0 HK HB GG8 HQ11 HQ12 hf8_0 hf9_0 hx253_0 hx254_0 hx8_0 hx9_0 hHeld ⊢
                refine pure_ (i := 0) (N := some 14) (v := ?_) (a' := ?_) #[true, false, false, false, false, false, false, false, false, false, false, false, false, false, false, false] rfl rfl (any_of HT_.out (by kernel_rfl)) (fun _ _ _ h => h) (Or.inl ⟨by rfl, ?_⟩) ?_ ?_
                rotate_left
                · intro w'
                  go_simp
                  with_reducible rfl
                rotate_left
                · simp only [Act.put, List.setIfInBounds_toArray, List.set_cons_zero, List.set_cons_succ, i64_w, i32_w]
                  rfl
                refine pure_ (i := 1) (N := some 15) (v := ?_) (a' := ?_) #[true, true, false, false, false, false, false, false, false, false, false, false, false, false, false, false] rfl rfl (any_of HT_.out (by kernel_rfl)) (fun _ _ _ h => h) (Or.inl ⟨by rfl, ?_⟩) ?_ ?_
                rotate_left
                · intro w'
                  go_simp
                  with_reducible rfl
                rotate_left
                · simp only [Act.put, List.setIfInBounds_toArray, List.set_cons_zero, List.set_cons_succ, i64_w, i32_w]
                  rfl
                refine pure_ (i := 2) (N := some 16) (v := ?_) (a' := ?_) #[true, true, true, false, false, false, false, false, false, false, false, false, false, false, false, false] rfl rfl (any_of HT_.out (by kernel_rfl)) (fun _ _ _ h => h) (Or.inl ⟨by rfl, ?_⟩) ?_ ?_
                rotate_left
                · intro w'
                  go_simp
                  with_reducible rfl
                rotate_left
                · simp only [Act.put, List.setIfInBounds_toArray, List.set_cons_zero, List.set_cons_succ, i64_w, i32_w]
                  rfl
                refine pure_ (i := 3) (N := some 17) (v := ?_) (a' := ?_) #[true, true, true, true, false, false, false, false, false, false, false, false, false, false, false, false] rfl rfl (any_of HT_.out (by kernel_rfl)) (fun _ _ _ h => h) (Or.inl ⟨by rfl, ?_⟩) ?_ ?_
                rotate_left
                · intro w'
                  go_simp
                  with_reducible rfl
                rotate_left
                · simp only [Act.put, List.setIfInBounds_toArray, List.set_cons_zero, List.set_cons_succ, i64_w, i32_w]
                  rfl
                refine pure_ (i := 4) (N := some 18) (v := ?_) (a' := ?_) #[true, true, true, true, true, false, false, false, false, false, false, false, false, false, false, false] rfl rfl (any_of HT_.out (by kernel_rfl)) (fun _ _ _ h => h) (Or.inl ⟨by rfl, ?_⟩) ?_ ?_
                rotate_left
                · intro w'
                  go_simp
                  with_reducible rfl
                rotate_left
                · simp only [Act.put, List.setIfInBounds_toArray, List.set_cons_zero, List.set_cons_succ, i64_w, i32_w]
                  rfl
                refine pure_ (i := 5) (N := some 19) (v := ?_) (a' := ?_) #[true, true, true, true, true, true, false, false, false, false, false, false, false, false, false, false] rfl rfl (any_of HT_.out (by kernel_rfl)) (fun _ _ _ h => h) (Or.inl ⟨by rfl, ?_⟩) ?_ ?_
                rotate_left
                · intro w'
                  go_simp
                  with_reducible rfl
                rotate_left
                · simp only [Act.put, List.setIfInBounds_toArray, List.set_cons_zero, List.set_cons_succ, i64_w, i32_w]
                  rfl
                refine pure_ (i := 6) (N := some 20) (v := ?_) (a' := ?_) #[true, true, true, true, true, true, true, false, false, false, false, false, false, false, false, false] rfl rfl (any_of HT_.out (by kernel_rfl)) (fun _ _ _ h => h) (Or.inl ⟨by rfl, ?_⟩) ?_ ?_
                rotate_left
                · intro w'
                  go_simp
                  with_reducible rfl
                rotate_left
                · simp only [Act.put, List.setIfInBounds_toArray, List.set_cons_zero, List.set_cons_succ, i64_w, i32_w]
                  rfl
                refine pure_ (i := 8) (N := some 22) (v := ?_) (a' := ?_) #[true, true, true, true, true, true, true, false, true, false, false, false, false, false, false, false] rfl rfl (any_of HT_.out (by kernel_rfl)) (fun _ _ _ h => h) (Or.inl ⟨by rfl, ?_⟩) ?_ ?_
                rotate_left
                · intro w'
                  go_simp
                  with_reducible rfl
                rotate_left
                · simp only [Act.put, List.setIfInBounds_toArray, List.set_cons_zero, List.set_cons_succ, i64_w, i32_w]
                  rfl
                refine pure_ (i := 9) (N := some 23) (v := ?_) (a' := ?_) #[true, true, true, true, true, true, true, false, true, true, false, false, false, false, false, false] rfl rfl (any_of HT_.out (by kernel_rfl)) (fun _ _ _ h => h) (Or.inl ⟨by rfl, ?_⟩) ?_ ?_
                rotate_left
                · intro w'
                  go_simp
                  with_reducible rfl
                rotate_left
                · simp only [Act.put, List.setIfInBounds_toArray, List.set_cons_zero, List.set_cons_succ, i64_w, i32_w]
                  rfl
                refine pure_ (i := 10) (N := some 24) (v := ?_) (a' := ?_) #[true, true, true, true, true, true, true, false, true, true, true, false, false, false, false, false] rfl rfl (any_of HT_.out (by kernel_rfl)) (fun _ _ _ h => h) (Or.inl ⟨by rfl, ?_⟩) ?_ ?_
                rotate_left
                · intro w'
                  go_simp
                  with_reducible rfl
                rotate_left
                · simp only [Act.put, List.setIfInBounds_toArray, List.set_cons_zero, List.set_cons_succ, i64_w, i32_w]
                  rfl
                refine take_ (i := 7) (N := some 21) (v := ?_) (a' := ?_) #[true, true, true, true, true, true, true, true, true, true, true, false, false, false, false, false] rfl rfl (take_ofW HT_.out HW_.out (by kernel_rfl)) (fun _ _ _ h => h) (Or.inl ⟨by rfl, ?_⟩) hHeld ?_ ?_
                rotate_left
                · rintro w' ⟨s0, s1⟩
                  go_simp
                  with_reducible rfl
                rotate_left
                · simp only [Act.put, List.setIfInBounds_toArray, List.set_cons_zero, List.set_cons_succ, i64_w, i32_w]
                  rfl
                refine take_ (i := 11) (N := some 25) (v := ?_) (a' := ?_) #[true, true, true, true, true, true, true, true, true, true, true, true, false, false, false, false] rfl rfl (take_ofW HT_.out HW_.out (by kernel_rfl)) (fun _ _ _ h => h) (Or.inl ⟨by rfl, ?_⟩) hHeld ?_ ?_
                rotate_left
                · rintro w' ⟨s0, s1⟩
                  go_simp
                  with_reducible rfl
                rotate_left
                · simp only [Act.put, List.setIfInBounds_toArray, List.set_cons_zero, List.set_cons_succ, i64_w, i32_w]
                  rfl
                refine pure_ (i := 12) (N := some 26) (v := ?_) (a' := ?_) #[true, true, true, true, true, true, true, true, true, true, true, true, true, false, false, false] rfl rfl (any_of HT_.out (by kernel_rfl)) (fun _ _ _ h => h) (Or.inl ⟨by rfl, ?_⟩) ?_ ?_
                rotate_left
                · intro w'
                  go_simp
                  with_reducible rfl
                rotate_left
                · simp only [Act.put, List.setIfInBounds_toArray, List.set_cons_zero, List.set_cons_succ, i64_w, i32_w]
                  rfl
                refine last_ (i := 13) (N := none) #[true, true, true, true, true, true, true, true, true, true, true, true, true, true, false, false] rfl rfl (one_of HT_.out (by kernel_rfl)) (by decide) (fun K hK => ?_)
                refine skip_ (w1 := ?_) (by rfl) rfl ?_ ?_
                rotate_left
                · go_simp
                  rfl
                refine hK.out _ _ ?_
                clear hK K
                refine pure_ (i := 14) (N := some 27) (v := ?_) (a' := ?_) #[true, true, true, true, true, true, true, true, true, true, true, true, true, true, true, false] rfl rfl (any_of HT_.out (by kernel_rfl)) (fun _ _ _ h => h) (Or.inl ⟨by rfl, ?_⟩) ?_ ?_
                rotate_left
                · intro w'
                  go_simp
                  with_reducible rfl
                rotate_left
                · simp only [Act.put, List.setIfInBounds_toArray, List.set_cons_zero, List.set_cons_succ, i64_w, i32_w]
                  rfl
                refine last_ (i := 15) (N := none) #[true, true, true, true, true, true, true, true, true, true, true, true, true, true, true, true] rfl rfl (one_of HT_.out (by kernel_rfl)) (by decide) (fun K hK => ?_)
                refine skip_ (w1 := ?_) (by rfl) rfl ?_ ?_
                rotate_left
                · go_simp
                  rfl
                refine hK.out _ _ ?_
                clear hK K
                refine done_ (done_of HT_.out (by kernel_rfl)) ?_
                try go_wp2
                (try simp only [← hl0_1])
                (first | go_roundg k1 | (simp only [add_plain] at *; go_roundg k1))
                case measure => have := HK1.out; omega
                case rel => exact ⟨(y256), (wrap64 (x2_1 + 1)), (wrap64 (x3_1 - 1)), (by first | rfl | (simp; done) | (simp [*]; done)), (by first | rfl | (simp; done) | (simp [*]; done)), H', ⟨by have := HK1.out; omega⟩, ⟨by (try simp only [hl0_1]); (with_reducible repeat (first | apply Kd.R_alloc | apply Kd.R_drewN | apply Kd.R_drew)); exact HQ12.out⟩, ⟨by repeat (first | (with_reducible first | exact HK.out | apply Kept.alloc | apply Kept.drewN | apply Kept.drew | refine Kept.setCell ?_ HMgo8.out _ | refine Kept.setCell ?_ HMgo8.out _) | exact HK.out)⟩, ⟨by repeat (first | (with_reducible first | exact HB.out | apply below_alloc | apply pw_below_drewN | apply below_drew1 | refine below_set ?_ GB8.out | refine below_set ?_ GB8.out) | exact HB.out)⟩⟩
              · rw [if_neg c7] at H
                exact absurd H (by simp)
            · rw [if_neg c6] at H
              exact absurd H (by simp)
          · rw [if_neg c5] at H
            exact absurd H (by simp)
        · rw [if_neg c4] at H
          exact absurd H (by simp)
      · rw [if_neg c3] at H
        have c3b0 : decide (x2_1 < x3_1) = false := decide_eq_false c3
        clear c3
        obtain rfl := Option.some.inj H
        go_wp2
        first | go_end0 | ((try simp only [Exit.inBlock, Exit.then]); refine bodyPost_ret (results_none rfl _ _ _) rfl ?_)
        exact ⟨by first | rfl | (simp [errW_none, errW_some] <;> rfl) | (simp [*, errW_none, errW_some] <;> rfl), (by first | exact (by (with_reducible repeat (first | apply Kd.R_alloc | apply Kd.R_drewN | apply Kd.R_drew)); exact HO_0.out) | (simp only [hl0_1]; exact (by (with_reducible repeat (first | apply Kd.R_alloc | apply Kd.R_drewN | apply Kd.R_drew)); exact HO_0.out))), by repeat (first | (with_reducible first | exact HB.out | apply below_alloc | apply pw_below_drewN | apply below_drew1) | exact HB.out), by repeat (first | (with_reducible first | exact HK.out | apply Kept.alloc | apply Kept.drewN | apply Kept.drew) | exact HK.out)⟩

/-! ### conv_Correlate: function 14 (by hand) -/
/-- A row whose words from the second on are turned about: so many exchanges of it. -/
def hk_rvs (l : List Int) : Nat → List Int
  | 0 => l
  | i + 1 => ((hk_rvs l i).set (1 + i) (rd (hk_rvs l i) ((l.length - 1 - i : Nat) : Int))).set (l.length - 1 - i) (rd (hk_rvs l i) ((1 + i : Nat) : Int))
def hk_rev1.T3 : Bool × List (List Nat × List Nat) := (true, [([], []), ([], []), ([], []), ([], []), ([], []), ([], []), ([4, 5], [4, 5]), ([6], [6]), ([], []), ([], []), ([8, 9], [8, 9]), ([10], [10]), ([0, 1, 0, 1, 4, 5, 6, 7, 11], [0, 1]), ([12, 7, 0, 1, 4, 5, 6, 7, 11], [7, 12]), ([2, 3, 0, 1, 2, 3, 4, 5, 6, 7, 8, 9, 10, 11, 12, 13], [2, 3]), ([14, 11, 13, 0, 1, 2, 3, 4, 5, 6, 7, 8, 9, 10, 11, 12, 13], [11, 14])])
def hk_rev1.B3 : List Nat := [0, 0, 0, 0, 0, 0, 48, 112, 0, 0, 768, 1792, 4083, 8179, 16383, 32767]
theorem hk_rev1.tab3 : rtab .any (opsOf Tryd.f27 3) = hk_rev1.T3 := by kernel_rfl
theorem hk_rev1.bits3 : waitsOk hk_rev1.T3.2 hk_rev1.B3 = true := by kernel_rfl
theorem hk_rvs_length (l : List Int) : ∀ i, (hk_rvs l i).length = l.length
  | 0 => rfl
  | i + 1 => by unfold hk_rvs; rw [List.length_set, List.length_set]; exact hk_rvs_length l i
set_option maxHeartbeats 8000000 in
set_option maxRecDepth 100000 in
theorem hk_rev1.calls (g c n c' : Nat) (l : List Int) (w0 w : World) (hn : n + 1 = l.length) (hm : l.length ≤ 1048576) (hg : w0.heap.size ≤ g) (hB : Below w0.heap.size w0 w) (hR : Kd.R (Kd.int .u64) 28 w w0.heap.size (fun j => j = g) (.slice (some ⟨g, 0, none⟩) l.length c) l) :
    Calls Tryd.prog 27 #[.slice (some ⟨g, 1, none⟩) n c'] w fun e w' => e = .returned (.tuple #[]) ∧ Kd.R (Kd.int .u64) 28 w' w0.heap.size (fun j => j = g) (.slice (some ⟨g, 0, none⟩) l.length c) (hk_rvs l (n / 2)) ∧ Below w0.heap.size w0 w' ∧ Kept w w' (fun j => j = g) := by
  have HN := Aside0.mk hn
  have HM := Aside0.mk hm
  have HG_ := Aside0.mk hg
  have HB := Aside0.mk hB
  have HR := Aside0.mk hR
  have HK := Aside0.mk (Kept.refl w (fun j => j = g))
  clear hn hm hg hB hR
  go_enter Tryd.func27, Tryd.ntmps27
  go_wp2
  go_loopg [2, 3] (n / 2) (fun kq v2 v3 w' => ∃ (i : Nat) (j : Int), v2 = .int .i64 (i : Int) ∧ v3 = .int .i64 j ∧ Aside0 (kq + i = n / 2) ∧ Aside0 (j = (n : Int) - 1 - i) ∧ Aside0 (Kd.R (Kd.int .u64) 28 w' w0.heap.size (fun j => j = g) (.slice (some ⟨g, 0, none⟩) l.length c) (hk_rvs l i)) ∧ Aside0 (Below w0.heap.size w0 w') ∧ Aside0 (Kept w w' (fun j => j = g)))
  case atStart => exact ⟨0, (n : Int) - 1, by simp, by rw [show wrap64 ((n : Int) - 1) = (n : Int) - 1 by have := HM.out; have := HN.out; unfold wrap64; omega], ⟨by omega⟩, ⟨by simp⟩, HR, HB, HK⟩
  case round =>
    obtain ⟨i, j, rfl, rfl, HI, HJ, HO, HBi, HKi⟩ := hrel
    cases gk with
    | zero =>
      have hi := HI.out
      have hj := HJ.out
      have c1 : decide ((i : Int) < j) = false := decide_eq_false (by omega)
      have e : i = n / 2 := by omega
      rw [e] at HO
      clear hi hj e
      go_wp2
      first | go_end0 | ((try simp only [Exit.inBlock, Exit.then]); refine bodyPost_ret (results_none rfl _ _ _) rfl ?_)
      exact ⟨rfl, HO.out, HBi.out, HKi.out⟩
    | succ k1 =>
      have hi := HI.out
      have hj := HJ.out
      have hn := HN.out
      obtain ⟨m, hm⟩ : ∃ m : Nat, m = n - 1 - i := ⟨_, rfl⟩
      have ej : j = (m : Int) := by omega
      have c1 : decide ((i : Int) < (m : Int)) = true := decide_eq_true (by omega)
      have c2 : (i < m) = True := eq_true (by omega)
      have a0 : (0 ≤ (i : Int)) = True := eq_true (by omega)
      have a1 : ((i : Int) < (n : Int)) = True := eq_true (by omega)
      have b0 : (0 ≤ (m : Int)) = True := eq_true (by omega)
      have b1 : ((m : Int) < (n : Int)) = True := eq_true (by omega)
      have a2 : (i < n) = True := eq_true (by omega)
      have b2 : (m < n) = True := eq_true (by omega)
      have em : l.length - 1 - i = 1 + m := by omega
      have ME := Aside0.mk em
      clear hi hj hn hm em
      subst ej
      go_wp2_with fail
      have q1 : ((1 + i : Nat) : Int) = 1 + (i : Int) := by omega
      have q2 : ((1 + m : Nat) : Int) = 1 + (m : Int) := by omega
      have n0_ := Aside0.mk (Kd.R_drew HO.out)
      have n1_ := Aside0.mk HKi.out.drew
      have n2_ := Aside0.mk (below_drew1 HBi.out)
      clear HO HKi HBi
      have HO := n0_
      have HKi := n1_
      have HBi := n2_
      clear n0_ n1_ n2_
      have hlen := hk_rvs_length l i
      have hnn := HN.out
      have hmm := HJ.out
      have hii := HI.out
      obtain ⟨hxa, hfa⟩ := Kd.R_celln 0 HO.out ((1 + i : Nat) : Int) (by omega) (by omega)
      obtain ⟨hxb, hfb⟩ := Kd.R_celln 0 HO.out ((1 + m : Nat) : Int) (by omega) (by omega)
      rw [Int.toNat_natCast] at hxa hfa hxb hfb
      rw [q1] at hxa
      rw [q2] at hxb
      have HQ0 := Kd.R_putn HO.out ((1 + i : Nat) : Int) (rd (hk_rvs l i) (1 + (m : Int)))
      obtain ⟨hx9, hf9⟩ := Kd.R_celln 0 HQ0 ((1 + m : Nat) : Int) (by omega) (by omega)
      rw [Int.toNat_natCast, Int.toNat_natCast] at hx9 hf9
      clear hlen hnn hmm hii HQ0
      refine start_ (n := 16) (S := fun w' => w'.cell? ⟨g, 1 + m, none⟩ = some (.int .u64 (rd (hk_rvs l i) (1 + (m : Int)))) ∧ w'.cell? ⟨g, 1 + i, none⟩ = some (.int .u64 (rd (hk_rvs l i) (1 + (i : Int))))) (ds := [13, 15]) #[false, false, false, false, false, false, false, false, false, false, false, false, false, false, false, false] (by kernel_rfl) rfl rfl ⟨hxb, hxa⟩ (fun hHeld => ?_); refine with_tabW hk_rev1.tab3 hk_rev1.bits3 (fun HT_ HW_ => ?_)
      generalize wr.drew = w10 at HO HBi HKi hxa hxb hfa hfb hx9 hf9 hHeld ⊢
      refine pure_ (i := 0) (N := some 14) (v := ?_) (a' := ?_) #[true, false, false, false, false, false, false, false, false, false, false, false, false, false, false, false] rfl rfl (any_of HT_.out (by kernel_rfl)) (fun _ _ _ h => h) (Or.inl ⟨by rfl, ?_⟩) ?_ ?_
      rotate_left
      · intro w'
        go_simp
        with_reducible rfl
      rotate_left
      · simp only [Act.put, List.setIfInBounds_toArray, List.set_cons_zero, List.set_cons_succ, i64_w, i32_w]
        rfl
      refine pure_ (i := 1) (N := some 15) (v := ?_) (a' := ?_) #[true, true, false, false, false, false, false, false, false, false, false, false, false, false, false, false] rfl rfl (any_of HT_.out (by kernel_rfl)) (fun _ _ _ h => h) (Or.inl ⟨by rfl, ?_⟩) ?_ ?_
      rotate_left
      · intro w'
        go_simp
        with_reducible rfl
      rotate_left
      · simp only [Act.put, List.setIfInBounds_toArray, List.set_cons_zero, List.set_cons_succ, i64_w, i32_w]
        rfl
      refine pure_ (i := 2) (N := some 16) (v := ?_) (a' := ?_) #[true, true, true, false, false, false, false, false, false, false, false, false, false, false, false, false] rfl rfl (any_of HT_.out (by kernel_rfl)) (fun _ _ _ h => h) (Or.inl ⟨by rfl, ?_⟩) ?_ ?_
      rotate_left
      · intro w'
        go_simp
        with_reducible rfl
      rotate_left
      · simp only [Act.put, List.setIfInBounds_toArray, List.set_cons_zero, List.set_cons_succ, i64_w, i32_w]
        rfl
      refine pure_ (i := 3) (N := some 17) (v := ?_) (a' := ?_) #[true, true, true, true, false, false, false, false, false, false, false, false, false, false, false, false] rfl rfl (any_of HT_.out (by kernel_rfl)) (fun _ _ _ h => h) (Or.inl ⟨by rfl, ?_⟩) ?_ ?_
      rotate_left
      · intro w'
        go_simp
        with_reducible rfl
      rotate_left
      · simp only [Act.put, List.setIfInBounds_toArray, List.set_cons_zero, List.set_cons_succ, i64_w, i32_w]
        rfl
      refine pure_ (i := 4) (N := some 18) (v := ?_) (a' := ?_) #[true, true, true, true, true, false, false, false, false, false, false, false, false, false, false, false] rfl rfl (any_of HT_.out (by kernel_rfl)) (fun _ _ _ h => h) (Or.inl ⟨by rfl, ?_⟩) ?_ ?_
      rotate_left
      · intro w'
        go_simp
        with_reducible rfl
      rotate_left
      · simp only [Act.put, List.setIfInBounds_toArray, List.set_cons_zero, List.set_cons_succ, i64_w, i32_w]
        rfl
      refine pure_ (i := 5) (N := some 19) (v := ?_) (a' := ?_) #[true, true, true, true, true, true, false, false, false, false, false, false, false, false, false, false] rfl rfl (any_of HT_.out (by kernel_rfl)) (fun _ _ _ h => h) (Or.inl ⟨by rfl, ?_⟩) ?_ ?_
      rotate_left
      · intro w'
        go_simp
        with_reducible rfl
      rotate_left
      · simp only [Act.put, List.setIfInBounds_toArray, List.set_cons_zero, List.set_cons_succ, i64_w, i32_w]
        rfl
      refine pure_ (i := 6) (N := some 20) (v := ?_) (a' := ?_) #[true, true, true, true, true, true, true, false, false, false, false, false, false, false, false, false] rfl rfl (any_of HT_.out (by kernel_rfl)) (fun _ _ _ h => h) (Or.inl ⟨by rfl, ?_⟩) ?_ ?_
      rotate_left
      · intro w'
        go_simp
        with_reducible rfl
      rotate_left
      · simp only [Act.put, List.setIfInBounds_toArray, List.set_cons_zero, List.set_cons_succ, i64_w, i32_w]
        rfl
      refine pure_ (i := 8) (N := some 22) (v := ?_) (a' := ?_) #[true, true, true, true, true, true, true, false, true, false, false, false, false, false, false, false] rfl rfl (any_of HT_.out (by kernel_rfl)) (fun _ _ _ h => h) (Or.inl ⟨by rfl, ?_⟩) ?_ ?_
      rotate_left
      · intro w'
        go_simp
        with_reducible rfl
      rotate_left
      · simp only [Act.put, List.setIfInBounds_toArray, List.set_cons_zero, List.set_cons_succ, i64_w, i32_w]
        rfl
      refine pure_ (i := 9) (N := some 23) (v := ?_) (a' := ?_) #[true, true, true, true, true, true, true, false, true, true, false, false, false, false, false, false] rfl rfl (any_of HT_.out (by kernel_rfl)) (fun _ _ _ h => h) (Or.inl ⟨by rfl, ?_⟩) ?_ ?_
      rotate_left
      · intro w'
        go_simp
        with_reducible rfl
      rotate_left
      · simp only [Act.put, List.setIfInBounds_toArray, List.set_cons_zero, List.set_cons_succ, i64_w, i32_w]
        rfl
      refine pure_ (i := 10) (N := some 24) (v := ?_) (a' := ?_) #[true, true, true, true, true, true, true, false, true, true, true, false, false, false, false, false] rfl rfl (any_of HT_.out (by kernel_rfl)) (fun _ _ _ h => h) (Or.inl ⟨by rfl, ?_⟩) ?_ ?_
      rotate_left
      · intro w'
        go_simp
        with_reducible rfl
      rotate_left
      · simp only [Act.put, List.setIfInBounds_toArray, List.set_cons_zero, List.set_cons_succ, i64_w, i32_w]
        rfl
      refine take_ (i := 7) (N := some 21) (v := ?_) (a' := ?_) #[true, true, true, true, true, true, true, true, true, true, true, false, false, false, false, false] rfl rfl (take_ofW HT_.out HW_.out (by kernel_rfl)) (fun _ _ _ h => h) (Or.inl ⟨by rfl, ?_⟩) hHeld ?_ ?_
      rotate_left
      · rintro w' ⟨s0, s1⟩
        go_simp
        with_reducible rfl
      rotate_left
      · simp only [Act.put, List.setIfInBounds_toArray, List.set_cons_zero, List.set_cons_succ, i64_w, i32_w]
        rfl
      refine take_ (i := 11) (N := some 25) (v := ?_) (a' := ?_) #[true, true, true, true, true, true, true, true, true, true, true, true, false, false, false, false] rfl rfl (take_ofW HT_.out HW_.out (by kernel_rfl)) (fun _ _ _ h => h) (Or.inl ⟨by rfl, ?_⟩) hHeld ?_ ?_
      rotate_left
      · rintro w' ⟨s0, s1⟩
        go_simp
        with_reducible rfl
      rotate_left
      · simp only [Act.put, List.setIfInBounds_toArray, List.set_cons_zero, List.set_cons_succ, i64_w, i32_w]
        rfl
      refine pure_ (i := 12) (N := some 26) (v := ?_) (a' := ?_) #[true, true, true, true, true, true, true, true, true, true, true, true, true, false, false, false] rfl rfl (any_of HT_.out (by kernel_rfl)) (fun _ _ _ h => h) (Or.inl ⟨by rfl, ?_⟩) ?_ ?_
      rotate_left
      · intro w'
        go_simp
        with_reducible rfl
      rotate_left
      · simp only [Act.put, List.setIfInBounds_toArray, List.set_cons_zero, List.set_cons_succ, i64_w, i32_w]
        rfl
      refine last_ (i := 13) (N := none) #[true, true, true, true, true, true, true, true, true, true, true, true, true, true, false, false] rfl rfl (one_of HT_.out (by kernel_rfl)) (by decide) (fun K hK => ?_)
      refine skip_ (w1 := ?_) (by rfl) rfl ?_ ?_
      rotate_left
      · go_simp
        rfl
      refine hK.out _ _ ?_
      clear hK K
      refine pure_ (i := 14) (N := some 27) (v := ?_) (a' := ?_) #[true, true, true, true, true, true, true, true, true, true, true, true, true, true, true, false] rfl rfl (any_of HT_.out (by kernel_rfl)) (fun _ _ _ h => h) (Or.inl ⟨by rfl, ?_⟩) ?_ ?_
      rotate_left
      · intro w'
        go_simp
        with_reducible rfl
      rotate_left
      · simp only [Act.put, List.setIfInBounds_toArray, List.set_cons_zero, List.set_cons_succ, i64_w, i32_w]
        rfl
      refine last_ (i := 15) (N := none) #[true, true, true, true, true, true, true, true, true, true, true, true, true, true, true, true] rfl rfl (one_of HT_.out (by kernel_rfl)) (by decide) (fun K hK => ?_)
      refine skip_ (w1 := ?_) (by rfl) rfl ?_ ?_
      rotate_left
      · go_simp
        rfl
      refine hK.out _ _ ?_
      clear hK K
      refine done_ (done_of HT_.out (by kernel_rfl)) ?_
      have HQ1 := Kd.R_putn HO.out ((1 + i : Nat) : Int) (rd (hk_rvs l i) ((1 + m : Nat) : Int))
      have HQ2 := Kd.R_putn HQ1 ((1 + m : Nat) : Int) (rd (hk_rvs l i) ((1 + i : Nat) : Int))
      rw [Int.toNat_natCast, Int.toNat_natCast] at HQ2
      have er : ((hk_rvs l i).set (1 + i) (rd (hk_rvs l i) ((1 + m : Nat) : Int))).set (1 + m) (rd (hk_rvs l i) ((1 + i : Nat) : Int)) = hk_rvs l (i + 1) := by rw [hk_rvs, ME.out]
      rw [er, q1, q2] at HQ2
      have HQ := Aside0.mk HQ2
      have HB2 := Aside0.mk (below_set (below_set HBi.out HG_.out (j := 1 + i) (v := .int .u64 (rd (hk_rvs l i) (1 + (m : Int))))) HG_.out (j := 1 + m) (v := .int .u64 (rd (hk_rvs l i) (1 + (i : Int)))))
      have HK2 := Aside0.mk ((HKi.out.setCell (p := ⟨g, 1 + i, none⟩) (.inl rfl) (.int .u64 (rd (hk_rvs l i) (1 + (m : Int))))).setCell (p := ⟨g, 1 + m, none⟩) (.inl rfl) (.int .u64 (rd (hk_rvs l i) (1 + (i : Int)))))
      clear HQ1 HQ2 er q1 q2
      try go_wp2
      go_roundg k1
      case measure => omega
      case rel => exact ⟨i + 1, wrap64 ((m : Int) - 1), (by rw [show wrap64 ((i : Int) + 1) = ((i + 1 : Nat) : Int) by have := HI.out; have := HN.out; have := HM.out; unfold wrap64; omega]), rfl, ⟨by have := HI.out; omega⟩, ⟨by have h1 := HJ.out; have h2 := HN.out; have h3 := HM.out; unfold wrap64; omega⟩, HQ, HB2, HK2⟩
set_option maxHeartbeats 800000 in
set_option maxRecDepth 100000 in
theorem hk_rev0.calls (g n c' : Nat) (w : World) (hn : n = 0) :
    Calls Tryd.prog 27 #[.slice (some ⟨g, 0, none⟩) n c'] w fun e w' => e = .returned (.tuple #[]) ∧ Drawn0 w w' := by
  subst hn
  go_enter Tryd.func27, Tryd.ntmps27
  go_wp2
  refine wp_loop_rounds 1 ?_
  rw [rounds_succ]
  go_wp2
  first | go_end0 | ((try simp only [Exit.inBlock, Exit.then]); refine bodyPost_ret (results_none rfl _ _ _) rfl ?_)
  exact ⟨rfl, by repeat (first | exact Drawn0.refl _ | apply Drawn0.step)⟩
def conv_Correlate.g (n : Nat) (a b : List Int) (k : Int) : Option (List Int) := if 0 ≤ k ∧ k ≤ 20 ∧ a.length = 2 ^ k.toNat ∧ b.length = 2 ^ k.toNat then (hk_kern n k).bind fun q => (hk_fwd n k.toNat q.1 q.2.2.1 a).bind fun x => (hk_fwd n k.toNat q.1 q.2.2.1 b).bind fun y => if 0 < y.length ∧ y.length ≤ 1048576 then (conv_times.f n x (hk_rvs y ((y.length - 1) / 2))).bind fun o => hk_bwd n k.toNat q.2.1 q.2.2.2.1 q.2.2.2.2 o else none else none
def conv_Correlate.f (n : Nat) (a b : List Int) : Option (List Int × Int) := (conv_check.f a b).bind fun p => if p.2 = 0 then (conv_Correlate.g n a b p.1).bind fun r => some (r, 0) else some ([], p.2)
theorem conv_Correlate.mono : ∀ a0 a1 k, LeO (conv_Correlate.f k a0 a1) (conv_Correlate.f (k + 1) a0 a1) := by
  intro a0 a1 k
  unfold conv_Correlate.f
  refine LeO.bind (LeO.refl _) (fun p => LeO.ite (LeO.bind ?_ (fun _ => LeO.refl _)) (LeO.refl _))
  unfold conv_Correlate.g
  exact LeO.ite (LeO.bind (hk_kern_mono _ _) (fun q => LeO.bind (hk_fwd_mono _ _ _ _ _) (fun x => LeO.bind (hk_fwd_mono _ _ _ _ _) (fun y => LeO.ite (LeO.bind (conv_times.mono _ _ _) (fun o => hk_bwd_mono _ _ _ _ _ _)) (LeO.refl _))))) (LeO.refl _)
set_option maxHeartbeats 8000000 in
set_option maxRecDepth 100000 in
theorem hk_crl.no (A0 : Option Addr) (c0 : Nat) (l0 : List Int) (A1 : Option Addr) (c1 : Nat) (l1 : List Int) (k e : Int) (w : World) (hG : Aside0 (TzTab w)) (hr0 : Kd.C (Kd.int .u64) w A0 l0.length l0) (hc0 : l0.length ≤ c0) (hr1 : Kd.C (Kd.int .u64) w A1 l1.length l1) (hc1 : l1.length ≤ c1) (hf : conv_check.f l0 l1 = some (k, e)) (he : ¬ e = 0) :
    Calls Tryd.prog 14 #[.slice A0 l0.length c0, .slice A1 l1.length c1] w fun e_ w' => ∃ v0_ : Value, e_ = .returned (.tuple #[v0_, .int .i64 e]) ∧ Kd.R (Kd.int .u64) 28 w' w.heap.size (fun _ => True) v0_ [] ∧ Below w.heap.size w w' := by
  have HC := Aside0.mk (conv_check.calls A0 c0 l0 A1 c1 l1 k e w hr0 hc0 hr1 hc1 hG hf)
  have d1 : (e != 0) = true := bne_iff_ne.2 he
  clear hr0 hc0 hr1 hc1 hf he
  go_enter Tryd.func14, Tryd.ntmps14
  go_wp2_with (go_at_call 20; (with_reducible refine (HC.out).mono ?_); rintro e w1 ⟨rfl, hb1⟩; have hb1b := Aside0.mk (hk_drawn_below hb1); clear hb1)
  go_ret2
  exact ⟨_, rfl, Kd.R_nil _ _ _ _ _, hb1b.out⟩
set_option maxHeartbeats 8000000 in
set_option maxRecDepth 100000 in
theorem hk_crl.walk (n k : Nat) (hk : k ≤ 20) (A0 : Option Addr) (c0 : Nat) (l0 : List Int) (A1 : Option Addr) (c1 : Nat) (l1 : List Int) (t0 t1 : List Int) (u0 u1 s : Int) (r0 r1 o r : List Int) (w : World) (hG : Aside0 (TzTab w)) (hr0 : Kd.C (Kd.int .u64) w A0 l0.length l0) (hc0 : l0.length ≤ c0) (hr1 : Kd.C (Kd.int .u64) w A1 l1.length l1) (hc1 : l1.length ≤ c1)
    (hf : conv_check.f l0 l1 = some ((k : Int), 0)) (hn0 : l0.length ≤ 1048576) (hn1 : l1.length ≤ 1048576) (hT : hk_tabs4 n k t0 t1 u0 u1 s) (h0 : hk_run4 n k t0 t1 u0 u1 s 0 false l0 r0) (h1 : hk_run4 n k t0 t1 u0 u1 s 0 false l1 r1) (hy : 0 < r1.length ∧ r1.length ≤ 1048576) (ho : conv_times.f n r0 (hk_rvs r1 ((r1.length - 1) / 2)) = some o) (h2 : hk_run4 n k t0 t1 u0 u1 s 1 false o r) :
    Calls Tryd.prog 14 #[.slice A0 l0.length c0, .slice A1 l1.length c1] w fun e w' => ∃ v0_ : Value, e = .returned (.tuple #[v0_, .int .i64 0]) ∧ Kd.R (Kd.int .u64) 28 w' w.heap.size (fun _ => True) v0_ r ∧ Below w.heap.size w w' := by
  have HC := Aside0.mk (conv_check.calls A0 c0 l0 A1 c1 l1 k 0 w hr0 hc0 hr1 hc1 hG hf)
  have C := Aside0.mk (fun (W : World) (hW : Below w.heap.size w W) => conv_pair.calls n k hk A0 c0 l0 A1 c1 l1 t0 t1 u0 u1 s r0 r1 W (Kd.C_below hr0 hW) hc0 (Kd.C_below hr1 hW) hc1 hn0 hn1 hT h0 h1)
  have HK := Aside0.mk hk
  have HO := Aside0.mk ho
  have RUN := Aside0.mk h2
  have HY := Aside0.mk hy
  clear hr0 hc0 hr1 hc1 hn0 hn1 hk hT h0 h1 ho h2 hy hf
  go_enter Tryd.func14, Tryd.ntmps14
  go_wp2_with (first | (go_at_call 20; (with_reducible refine (HC.out).mono ?_); rintro e w1 ⟨rfl, hb1⟩; have hb1b := Aside0.mk (hk_drawn_below hb1); clear hb1 HC) | (go_at_call 26; (with_reducible refine (C.out _ hb1b.out).mono ?_); rintro e w3 ⟨w2, b, vs, vt, rfl, hB_, hK_, hH_, hS_, hT_, hA_⟩; clear C; have HB := Aside0.mk (hb1b.out.trans (hB_.mono hb1b.out.size)); have K4 := Aside0.mk hK_; have H2 := Aside0.mk hH_; obtain ⟨As, cs, es⟩ := Kd.R_slice hS_; subst es; obtain ⟨gt, ct, et, gb, gl, cl, hGG⟩ := Kd.R_form hT_ HY.out.1; subst et; have Rs := Aside0.mk hS_; have Rt := Aside0.mk hT_; have AP := Aside0.mk hA_; have GB := Aside0.mk gb; have hy1 : (1 ≤ r1.length) = True := eq_true HY.out.1; have hy2 : ((1 : Int) ≤ (r1.length : Int)) = True := eq_true (by have := HY.out.1; omega); have hy3 : (1 ≤ ct) = True := eq_true (by have := HY.out.1; have := (Kd.R_reads' hT_).2.1; omega); clear gb gl cl hGG hB_ hK_ hH_ hS_ hT_ hA_))
  · have nn_ : r1.length - 1 = 0 := by (have := (Kd.R_reads' Rt.out).2.1; omega)
    (with_reducible refine (hk_rev0.calls gt (r1.length - 1) _ _ nn_).mono ?_)
    clear nn_
    rintro e w4 ⟨rfl, hb_⟩
    have hB_ := hk_drawn_below hb_
    have e_ : hk_rvs r1 ((r1.length - 1) / 2) = r1 := by (have := (Kd.R_reads' Rt.out).2.1; rw [show (r1.length - 1) / 2 = 0 by omega]; rfl)
    have r_ := Aside0.mk (Kd.R_below Rs.out hB_)
    clear Rs
    have Rs := r_
    clear r_
    have r_ := Kd.R_below Rt.out hB_
    clear Rt
    have Rt := r_
    clear r_
    replace Rt := Aside0.mk (show Kd.R (Kd.int .u64) 28 w4 w2.heap.size (fun _ => True) (.slice (some ⟨gt, 0, none⟩) r1.length ct) (hk_rvs r1 ((r1.length - 1) / 2)) by rw [e_]; exact Rt)
    have n1_ := Aside0.mk (H2.out.trans (hB_.mono H2.out.size))
    clear H2
    have H2 := n1_
    clear n1_ hB_ hb_ e_
    go_wp2_with (first | (go_at_call 24; (with_reducible refine (hk_times_at n As cs _ r0 (some ⟨gt, 0, none⟩) _ _ (hk_rvs r1 ((r1.length - 1) / 2)) o _ rfl (hk_rvs_length _ _).symm (Kd.R_reads' Rs.out).2.2 (Kd.R_reads' Rs.out).2.1 (Kd.R_reads' Rt.out).2.2 ?hco HO.out).mono ?_); (case hco => have h1 := Kd.R_reads' Rt.out; omega); rintro e w5 ⟨vo, rfl, hR_, hB_⟩; have Ro := Aside0.mk (Kd.R_lower hR_ H2.out.size); have n1_ := Aside0.mk (H2.out.trans (hB_.mono H2.out.size)); clear H2; have H2 := n1_; clear n1_ hR_ hB_) | (go_at_call 28; (with_reducible refine (hk_Run4.run n k HK.out vo o r t0 t1 u0 u1 s 1 _ b w2 _ H2.out K4.out Ro.out RUN.out).mono ?_); rintro e w6 ⟨rfl, hR_, hB_, _⟩; clear Ro; have Ro := Aside0.mk hR_; clear H2; have H2 := Aside0.mk hB_; clear hR_ hB_))
    go_ret2
    exact ⟨vo, rfl, Kd.R_lower Ro.out HB.out.size, HB.out.trans (H2.out.mono HB.out.size)⟩
  · have rf_ := Kd.R_flat (ok' := fun j => j = gt) (fun h => h) Rt.out (fun q hq _ => (Option.some.inj hq).symm)
    have nn_ : r1.length - 1 + 1 = r1.length := by (have := HY.out.1; omega)
    (with_reducible refine (hk_rev1.calls gt ct (r1.length - 1) _ r1 w2 _ nn_ HY.out.2 GB.out H2.out rf_).mono ?_)
    clear rf_ nn_
    rintro e w4 ⟨rfl, hR_, hB_, hK_⟩
    have r_ := Aside0.mk (Kd.R_mono (Kd.R_kept (Kd.R_flat (ok' := fun j => (Value.slice As r0.length cs).ownBlock = some j) (fun h => h) Rs.out (fun q hq _ => hq)) hK_ (fun j hj hs => AP.out j hj (by rw [hs]; rfl))) (fun _ _ => trivial))
    clear Rs
    have Rs := r_
    clear r_ Rt
    have Rt := Aside0.mk (Kd.R_mono (ok' := fun _ => True) hR_ (fun _ _ => trivial))
    clear H2
    have H2 := Aside0.mk hB_
    clear hR_ hB_ hK_
    go_wp2_with (first | (go_at_call 24; (with_reducible refine (hk_times_at n As cs _ r0 (some ⟨gt, 0, none⟩) _ _ (hk_rvs r1 ((r1.length - 1) / 2)) o _ rfl (hk_rvs_length _ _).symm (Kd.R_reads' Rs.out).2.2 (Kd.R_reads' Rs.out).2.1 (Kd.R_reads' Rt.out).2.2 ?hco HO.out).mono ?_); (case hco => have h1 := Kd.R_reads' Rt.out; omega); rintro e w5 ⟨vo, rfl, hR_, hB_⟩; have Ro := Aside0.mk (Kd.R_lower hR_ H2.out.size); have n1_ := Aside0.mk (H2.out.trans (hB_.mono H2.out.size)); clear H2; have H2 := n1_; clear n1_ hR_ hB_) | (go_at_call 28; (with_reducible refine (hk_Run4.run n k HK.out vo o r t0 t1 u0 u1 s 1 _ b w2 _ H2.out K4.out Ro.out RUN.out).mono ?_); rintro e w6 ⟨rfl, hR_, hB_, _⟩; clear Ro; have Ro := Aside0.mk hR_; clear H2; have H2 := Aside0.mk hB_; clear hR_ hB_))
    go_ret2
    exact ⟨vo, rfl, Kd.R_lower Ro.out HB.out.size, HB.out.trans (H2.out.mono HB.out.size)⟩
theorem conv_Correlate.calls (k : Nat) (A0 : Option Addr) (c0 : Nat) (l0 : List Int) (A1 : Option Addr) (c1 : Nat) (l1 : List Int) (r1 : List Int) (r2 : Int) (w : World) (hr0 : Kd.C (Kd.int .u64) w A0 l0.length l0) (hc0 : l0.length ≤ c0) (hr1 : Kd.C (Kd.int .u64) w A1 l1.length l1) (hc1 : l1.length ≤ c1) (hG : Aside0 (TzTab w)) (h : conv_Correlate.f k l0 l1 = some (r1, r2)) :
    Calls Tryd.prog 14 #[.slice A0 l0.length c0, .slice A1 l1.length c1] w fun e w' => ∃ v0_ : Value, e = .returned (.tuple #[v0_, .int .i64 r2]) ∧ Kd.R (Kd.int .u64) 28 w' w.heap.size (fun _ => True) v0_ r1 ∧ Below w.heap.size w w' := by
  unfold conv_Correlate.f at h
  obtain ⟨⟨a2, e⟩, hf, h⟩ := Option.bind_eq_some_iff.1 h
  by_cases he : e = 0
  · rw [if_pos he] at h
    subst he
    obtain ⟨r, hg, h⟩ := Option.bind_eq_some_iff.1 h
    obtain ⟨rfl, rfl⟩ := Prod.mk.inj (Option.some.inj h)
    unfold conv_Correlate.g at hg
    by_cases c : 0 ≤ a2 ∧ a2 ≤ 20 ∧ l0.length = 2 ^ a2.toNat ∧ l1.length = 2 ^ a2.toNat
    · rw [if_pos c] at hg
      obtain ⟨g0, g1, g2, g3⟩ := c
      obtain ⟨kk, rfl⟩ := Int.eq_ofNat_of_zero_le g0
      rw [Int.toNat_natCast] at g2 g3 hg
      obtain ⟨q, hq, hg⟩ := Option.bind_eq_some_iff.1 hg
      obtain ⟨x, hx, hg⟩ := Option.bind_eq_some_iff.1 hg
      obtain ⟨y, hy, hg⟩ := Option.bind_eq_some_iff.1 hg
      by_cases cy : 0 < y.length ∧ y.length ≤ 1048576
      · rw [if_pos cy] at hg
        obtain ⟨o, ho, hg⟩ := Option.bind_eq_some_iff.1 hg
        have hk : kk ≤ 20 := by omega
        have hp : 2 ^ kk ≤ 1048576 := Nat.pow_le_pow_right (n := 2) (by omega) hk
        exact hk_crl.walk k kk hk A0 c0 l0 A1 c1 l1 q.1 q.2.1 q.2.2.1 q.2.2.2.1 q.2.2.2.2 x y o r w hG hr0 hc0 hr1 hc1 hf (by omega) (by omega) (hk_kern_tabs hq) (hk_fwd_run hx) (hk_fwd_run hy) cy ho (hk_bwd_run hg)
      · rw [if_neg cy] at hg; cases hg
    · rw [if_neg c] at hg; cases hg
  · rw [if_neg he] at h
    obtain ⟨rfl, rfl⟩ := Prod.mk.inj (Option.some.inj h)
    exact hk_crl.no A0 c0 l0 A1 c1 l1 a2 e w hG hr0 hc0 hr1 hc1 hf he

/-! ### abacistref02_Of: function 44 -/
def abacistref02_Of.f (a0 : Int) : Option (Int) := some (Int.tmod a0 18446744069414584321)
set_option maxHeartbeats 8000000 in
set_option maxRecDepth 100000 in
theorem abacistref02_Of.calls (a0 : Int) (r : Int) (w : World) (h : abacistref02_Of.f a0 = some r) :
    Calls Tryd.prog 44 #[.int .u64 a0] w fun e w' => e = .returned (.int .u64 r) ∧ Drawn0 w w' := by
  have H : (some (Int.tmod a0 18446744069414584321)) = some r := h
  clear h
  obtain rfl := Option.some.inj H
  go_enter Tryd.func44, Tryd.ntmps44
  go_wp2
  go_ret
  exact ⟨by first | rfl | (simp; done) | (simp [*]; done), by repeat (first | exact Drawn0.refl _ | apply Drawn0.step)⟩

/-! ### abacistref02_Add: function 29 -/
def abacistref02_Add.f (a0 : Int) (a1 : Int) : Option (Int) := (abacistref02_Of.f a0).bind fun t257 => ((abacistref02_Of.f a1).bind fun t258 => (if t257 ≥ (IntKind.u64.wrap (18446744069414584321 - t258)) then (some (IntKind.u64.wrap (t257 - (IntKind.u64.wrap (18446744069414584321 - t258))))) else (some (IntKind.u64.wrap (t257 + t258)))))
set_option maxHeartbeats 8000000 in
set_option maxRecDepth 100000 in
theorem abacistref02_Add.calls (a0 : Int) (a1 : Int) (r : Int) (w : World) (h : abacistref02_Add.f a0 a1 = some r) :
    Calls Tryd.prog 29 #[.int .u64 a0, .int .u64 a1] w fun e w' => e = .returned (.int .u64 r) ∧ Drawn0 w w' := by
  have H : ((abacistref02_Of.f a0).bind fun t257 => ((abacistref02_Of.f a1).bind fun t258 => (if t257 ≥ (IntKind.u64.wrap (18446744069414584321 - t258)) then (some (IntKind.u64.wrap (t257 - (IntKind.u64.wrap (18446744069414584321 - t258))))) else (some (IntKind.u64.wrap (t257 + t258)))))) = some r := h
  clear h
  replace H := Option.bind_eq_some_iff.mp H
  obtain ⟨t257, A30, H⟩ := H
  replace H : ((abacistref02_Of.f a1).bind fun t258 => (if t257 ≥ (IntKind.u64.wrap (18446744069414584321 - t258)) then (some (IntKind.u64.wrap (t257 - (IntKind.u64.wrap (18446744069414584321 - t258))))) else (some (IntKind.u64.wrap (t257 + t258))))) = some r := H
  have A3 := Aside0.mk A30
  clear A30
  replace H := Option.bind_eq_some_iff.mp H
  obtain ⟨t258, A40, H⟩ := H
  replace H : (if t257 ≥ (IntKind.u64.wrap (18446744069414584321 - t258)) then (some (IntKind.u64.wrap (t257 - (IntKind.u64.wrap (18446744069414584321 - t258))))) else (some (IntKind.u64.wrap (t257 + t258)))) = some r := H
  have A4 := Aside0.mk A40
  clear A40
  by_cases c5 : t257 ≥ (IntKind.u64.wrap (18446744069414584321 - t258))
  · rw [if_pos c5] at H
    have c5b0 : decide ((IntKind.u64.wrap (18446744069414584321 - t258)) ≤ t257) = true := decide_eq_true c5
    clear c5
    obtain rfl := Option.some.inj H
    go_enter Tryd.func29, Tryd.ntmps29
    go_wp2_with (first | ((with_reducible refine gate_callee (f := 44) rfl ?_); refine goesL_ (some 6) rfl rfl Tryd.func44 (by kernel_rfl) rfl #[.int .u64 a0] rfl (by (try simp only [List.map_toArray, List.map_cons, List.map_nil]); first | done | rfl | (simp only [List.length_drop, List.length_take]; rfl)) ?_; (with_reducible refine (abacistref02_Of.calls a0 t257 _ A3.out).mono ?_); rintro e w' ⟨rfl, ⟨nd, rfl⟩⟩; refine ⟨_, rfl, ?_⟩) | ((with_reducible refine gate_callee (f := 44) rfl ?_); refine goesL_ (some 8) rfl rfl Tryd.func44 (by kernel_rfl) rfl #[.int .u64 a1] rfl (by (try simp only [List.map_toArray, List.map_cons, List.map_nil]); first | done | rfl | (simp only [List.length_drop, List.length_take]; rfl)) ?_; (with_reducible refine (abacistref02_Of.calls a1 t258 _ A4.out).mono ?_); rintro e w' ⟨rfl, ⟨nd, rfl⟩⟩; refine ⟨_, rfl, ?_⟩))
    go_ret
    exact ⟨by first | rfl | (simp; done) | (simp [*]; done), by repeat (first | exact Drawn0.refl _ | apply Drawn0.step)⟩
  · rw [if_neg c5] at H
    have c5b0 : decide ((IntKind.u64.wrap (18446744069414584321 - t258)) ≤ t257) = false := decide_eq_false c5
    clear c5
    obtain rfl := Option.some.inj H
    go_enter Tryd.func29, Tryd.ntmps29
    go_wp2_with (first | ((with_reducible refine gate_callee (f := 44) rfl ?_); refine goesL_ (some 6) rfl rfl Tryd.func44 (by kernel_rfl) rfl #[.int .u64 a0] rfl (by (try simp only [List.map_toArray, List.map_cons, List.map_nil]); first | done | rfl | (simp only [List.length_drop, List.length_take]; rfl)) ?_; (with_reducible refine (abacistref02_Of.calls a0 t257 _ A3.out).mono ?_); rintro e w' ⟨rfl, ⟨nd, rfl⟩⟩; refine ⟨_, rfl, ?_⟩) | ((with_reducible refine gate_callee (f := 44) rfl ?_); refine goesL_ (some 8) rfl rfl Tryd.func44 (by kernel_rfl) rfl #[.int .u64 a1] rfl (by (try simp only [List.map_toArray, List.map_cons, List.map_nil]); first | done | rfl | (simp only [List.length_drop, List.length_take]; rfl)) ?_; (with_reducible refine (abacistref02_Of.calls a1 t258 _ A4.out).mono ?_); rintro e w' ⟨rfl, ⟨nd, rfl⟩⟩; refine ⟨_, rfl, ?_⟩))
    go_ret
    exact ⟨by first | rfl | (simp; done) | (simp [*]; done), by repeat (first | exact Drawn0.refl _ | apply Drawn0.step)⟩

/-! ### abacistref02_Mul: function 30 -/
def abacistref02_Mul.l0 : Nat → Int → Int → Int → Option (Int)
  | 0, _, _, _ => none
  | k + 1, x0, x1, x5 => if x1 > 0 then (if (Int.tmod x1 2) = 1 then ((abacistref02_Add.f x5 x0).bind fun t260 => ((abacistref02_Add.f x0 x0).bind fun t261 => (abacistref02_Mul.l0 k t261 (IntKind.u64.wrap (Int.tdiv x1 2)) t260))) else ((abacistref02_Add.f x0 x0).bind fun t262 => (abacistref02_Mul.l0 k t262 (IntKind.u64.wrap (Int.tdiv x1 2)) x5))) else (some x5)
def abacistref02_Mul.f (k : Nat) (a0 : Int) (a1 : Int) : Option (Int) := (abacistref02_Of.f a0).bind fun t259 => (abacistref02_Mul.l0 k t259 a1 0)
theorem abacistref02_Mul.mono_l : ∀ k, (∀ y0 y1 y2, LeO (abacistref02_Mul.l0 k y0 y1 y2) (abacistref02_Mul.l0 (k + 1) y0 y1 y2))
  | 0 => fun _ _ _ r h => by simp [abacistref02_Mul.l0] at h
  | k + 1 => by
    have ih0 := abacistref02_Mul.mono_l k
    · intro y0 y1 y2
      unfold abacistref02_Mul.l0
      repeat' first
      | (with_reducible exact ih0 _ _ _)
      | (with_reducible exact LeO.refl _)
      | (with_reducible exact LeO.none _)
      | (with_reducible refine LeO.ite ?_ ?_)
      | (with_reducible refine LeO.bind ?_ (fun _ => ?_))
      | exact ih0 _ _ _
      | exact LeO.none _
      | refine LeO.ite ?_ ?_
      | refine LeO.bind ?_ (fun _ => ?_)
theorem abacistref02_Mul.mono : ∀ a0 a1 k, LeO (abacistref02_Mul.f k a0 a1) (abacistref02_Mul.f (k + 1) a0 a1) := by
  intro a0 a1 k
  have ih0 := abacistref02_Mul.mono_l k
  unfold abacistref02_Mul.f
  repeat' first
      | (with_reducible exact ih0 _ _ _)
      | (with_reducible exact LeO.refl _)
      | (with_reducible exact LeO.none _)
      | (with_reducible refine LeO.ite ?_ ?_)
      | (with_reducible refine LeO.bind ?_ (fun _ => ?_))
      | exact ih0 _ _ _
      | exact LeO.none _
      | refine LeO.ite ?_ ?_
      | refine LeO.bind ?_ (fun _ => ?_)
set_option maxHeartbeats 8000000 in
set_option maxRecDepth 100000 in
theorem abacistref02_Mul.calls (k : Nat) (a0 : Int) (a1 : Int) (r : Int) (w : World) (h : abacistref02_Mul.f k a0 a1 = some r) :
    Calls Tryd.prog 30 #[.int .u64 a0, .int .u64 a1] w fun e w' => e = .returned (.int .u64 r) ∧ Drawn0 w w' := by
  have H : ((abacistref02_Of.f a0).bind fun t259 => (abacistref02_Mul.l0 k t259 a1 0)) = some r := h
  clear h
  replace H := Option.bind_eq_some_iff.mp H
  obtain ⟨t259, A30, H⟩ := H
  replace H : (abacistref02_Mul.l0 k t259 a1 0) = some r := H
  have A3 := Aside0.mk A30
  clear A30
  have H' := Aside0.mk H
  clear H
  go_enter Tryd.func30, Tryd.ntmps30
  go_wp2_with (first | ((with_reducible refine gate_callee (f := 44) rfl ?_); refine goesL_ (some 7) rfl rfl Tryd.func44 (by kernel_rfl) rfl #[.int .u64 a0] rfl (by (try simp only [List.map_toArray, List.map_cons, List.map_nil]); first | done | rfl | (simp only [List.length_drop, List.length_take]; rfl)) ?_; (with_reducible refine (abacistref02_Of.calls a0 t259 _ A3.out).mono ?_); rintro e w' ⟨rfl, ⟨nd, rfl⟩⟩; refine ⟨_, rfl, ?_⟩))
  go_loopg [0, 1, 5] k (fun kq v0 v1 v5 w' => ∃ (x0_1 : Int) (x1_1 : Int) (x5_1 : Int), v0 = .int .u64 x0_1 ∧ v1 = .int .u64 x1_1 ∧ v5 = .int .u64 x5_1 ∧ Aside0 (abacistref02_Mul.l0 kq x0_1 x1_1 x5_1 = some r) ∧ Aside0 (kq ≤ k) ∧ Drawn0 w w')
  case atStart => exact ⟨(t259), (a1), (0), (by first | rfl | (simp; done) | (simp [*]; done)), (by first | rfl | (simp; done) | (simp [*]; done)), (by first | rfl | (simp; done) | (simp [*]; done)), H', ⟨Nat.le_refl _⟩, by repeat (first | exact Drawn0.refl _ | apply Drawn0.step)⟩
  case round =>
    clear H'
    try clear p2
    try clear c3
    obtain ⟨x0_1, x1_1, x5_1, rfl, rfl, rfl, HA, HK1, ⟨m1, rfl⟩⟩ := hrel
    cases gk with
    | zero => exact absurd HA.out (by simp [abacistref02_Mul.l0])
    | succ k1 =>
      have H := HA.out
      clear HA
      simp only [abacistref02_Mul.l0] at H
      by_cases c4 : x1_1 > 0
      · rw [if_pos c4] at H
        have c4b0 : decide (0 < x1_1) = true := decide_eq_true c4
        clear c4
        by_cases c5 : (Int.tmod x1_1 2) = 1
        · rw [if_pos c5] at H
          have c5b0 : ((Int.tmod x1_1 2) == 1) = true := beq_iff_eq.mpr c5
          have c5b1 : ((Int.tmod x1_1 2) != 1) = false := bne_eq_false_iff_eq.mpr c5
          clear c5
          replace H := Option.bind_eq_some_iff.mp H
          obtain ⟨t260, A60, H⟩ := H
          replace H : ((abacistref02_Add.f x0_1 x0_1).bind fun t261 => (abacistref02_Mul.l0 k1 t261 (IntKind.u64.wrap (Int.tdiv x1_1 2)) t260)) = some r := H
          have A6 := Aside0.mk A60
          clear A60
          replace H := Option.bind_eq_some_iff.mp H
          obtain ⟨t261, A70, H⟩ := H
          replace H : (abacistref02_Mul.l0 k1 t261 (IntKind.u64.wrap (Int.tdiv x1_1 2)) t260) = some r := H
          have A7 := Aside0.mk A70
          clear A70
          have H' := Aside0.mk H
          clear H
          go_wp2_with (first | ((with_reducible refine gate_callee (f := 29) rfl ?_); refine goesL_ (some 15) rfl rfl Tryd.func29 (by kernel_rfl) rfl #[.int .u64 x5_1, .int .u64 x0_1] rfl (by (try simp only [List.map_toArray, List.map_cons, List.map_nil]); first | done | rfl | (simp only [List.length_drop, List.length_take]; rfl)) ?_; (with_reducible refine (abacistref02_Add.calls x5_1 x0_1 t260 _ A6.out).mono ?_); rintro e w' ⟨rfl, ⟨nd, rfl⟩⟩; refine ⟨_, rfl, ?_⟩) | ((with_reducible refine gate_callee (f := 29) rfl ?_); refine goesL_ (some 18) rfl rfl Tryd.func29 (by kernel_rfl) rfl #[.int .u64 x0_1, .int .u64 x0_1] rfl (by (try simp only [List.map_toArray, List.map_cons, List.map_nil]); first | done | rfl | (simp only [List.length_drop, List.length_take]; rfl)) ?_; (with_reducible refine (abacistref02_Add.calls x0_1 x0_1 t261 _ A7.out).mono ?_); rintro e w' ⟨rfl, ⟨nd, rfl⟩⟩; refine ⟨_, rfl, ?_⟩))
          (first | go_roundg k1 | (simp only [add_plain] at *; go_roundg k1))
          case measure => have := HK1.out; omega
          case rel => exact ⟨(t261), (IntKind.u64.wrap (Int.tdiv x1_1 2)), (t260), (by first | rfl | (simp; done) | (simp [*]; done)), (by first | rfl | (simp; done) | (simp [*]; done)), (by first | rfl | (simp; done) | (simp [*]; done)), H', ⟨by have := HK1.out; omega⟩, by repeat (first | exact Drawn0.refl _ | apply Drawn0.step)⟩
        · rw [if_neg c5] at H
          have c5b0 : ((Int.tmod x1_1 2) == 1) = false := beq_eq_false_iff_ne.mpr c5
          have c5b1 : ((Int.tmod x1_1 2) != 1) = true := bne_iff_ne.mpr c5
          replace H := Option.bind_eq_some_iff.mp H
          obtain ⟨t262, A80, H⟩ := H
          replace H : (abacistref02_Mul.l0 k1 t262 (IntKind.u64.wrap (Int.tdiv x1_1 2)) x5_1) = some r := H
          have A8 := Aside0.mk A80
          clear A80
          have H' := Aside0.mk H
          clear H
          go_wp2_with (first | ((with_reducible refine gate_callee (f := 29) rfl ?_); refine goesL_ (some 18) rfl rfl Tryd.func29 (by kernel_rfl) rfl #[.int .u64 x0_1, .int .u64 x0_1] rfl (by (try simp only [List.map_toArray, List.map_cons, List.map_nil]); first | done | rfl | (simp only [List.length_drop, List.length_take]; rfl)) ?_; (with_reducible refine (abacistref02_Add.calls x0_1 x0_1 t262 _ A8.out).mono ?_); rintro e w' ⟨rfl, ⟨nd, rfl⟩⟩; refine ⟨_, rfl, ?_⟩))
          (first | go_roundg k1 | (simp only [add_plain] at *; go_roundg k1))
          case measure => have := HK1.out; omega
          case rel => exact ⟨(t262), (IntKind.u64.wrap (Int.tdiv x1_1 2)), (x5_1), (by first | rfl | (simp; done) | (simp [*]; done)), (by first | rfl | (simp; done) | (simp [*]; done)), (by first | rfl | (simp; done) | (simp [*]; done)), H', ⟨by have := HK1.out; omega⟩, by repeat (first | exact Drawn0.refl _ | apply Drawn0.step)⟩
      · rw [if_neg c4] at H
        have c4b0 : decide (0 < x1_1) = false := decide_eq_false c4
        clear c4
        obtain rfl := Option.some.inj H
        go_wp2
        go_ret
        exact ⟨by first | rfl | (simp; done) | (simp [*]; done), by repeat (first | exact Drawn0.refl _ | apply Drawn0.step)⟩

/-! ### abacistref02_Sub: function 31 -/
def abacistref02_Sub.f (a0 : Int) (a1 : Int) : Option (Int) := (abacistref02_Of.f a0).bind fun t263 => ((abacistref02_Of.f a1).bind fun t264 => (if t263 ≥ t264 then (some (IntKind.u64.wrap (t263 - t264))) else (some (IntKind.u64.wrap (18446744069414584321 - (IntKind.u64.wrap (t264 - t263)))))))
set_option maxHeartbeats 8000000 in
set_option maxRecDepth 100000 in
theorem abacistref02_Sub.calls (a0 : Int) (a1 : Int) (r : Int) (w : World) (h : abacistref02_Sub.f a0 a1 = some r) :
    Calls Tryd.prog 31 #[.int .u64 a0, .int .u64 a1] w fun e w' => e = .returned (.int .u64 r) ∧ Drawn0 w w' := by
  have H : ((abacistref02_Of.f a0).bind fun t263 => ((abacistref02_Of.f a1).bind fun t264 => (if t263 ≥ t264 then (some (IntKind.u64.wrap (t263 - t264))) else (some (IntKind.u64.wrap (18446744069414584321 - (IntKind.u64.wrap (t264 - t263)))))))) = some r := h
  clear h
  replace H := Option.bind_eq_some_iff.mp H
  obtain ⟨t263, A30, H⟩ := H
  replace H : ((abacistref02_Of.f a1).bind fun t264 => (if t263 ≥ t264 then (some (IntKind.u64.wrap (t263 - t264))) else (some (IntKind.u64.wrap (18446744069414584321 - (IntKind.u64.wrap (t264 - t263))))))) = some r := H
  have A3 := Aside0.mk A30
  clear A30
  replace H := Option.bind_eq_some_iff.mp H
  obtain ⟨t264, A40, H⟩ := H
  replace H : (if t263 ≥ t264 then (some (IntKind.u64.wrap (t263 - t264))) else (some (IntKind.u64.wrap (18446744069414584321 - (IntKind.u64.wrap (t264 - t263)))))) = some r := H
  have A4 := Aside0.mk A40
  clear A40
  by_cases c5 : t263 ≥ t264
  · rw [if_pos c5] at H
    have c5b0 : decide (t264 ≤ t263) = true := decide_eq_true c5
    clear c5
    obtain rfl := Option.some.inj H
    go_enter Tryd.func31, Tryd.ntmps31
    go_wp2_with (first | ((with_reducible refine gate_callee (f := 44) rfl ?_); refine goesL_ (some 6) rfl rfl Tryd.func44 (by kernel_rfl) rfl #[.int .u64 a0] rfl (by (try simp only [List.map_toArray, List.map_cons, List.map_nil]); first | done | rfl | (simp only [List.length_drop, List.length_take]; rfl)) ?_; (with_reducible refine (abacistref02_Of.calls a0 t263 _ A3.out).mono ?_); rintro e w' ⟨rfl, ⟨nd, rfl⟩⟩; refine ⟨_, rfl, ?_⟩) | ((with_reducible refine gate_callee (f := 44) rfl ?_); refine goesL_ (some 8) rfl rfl Tryd.func44 (by kernel_rfl) rfl #[.int .u64 a1] rfl (by (try simp only [List.map_toArray, List.map_cons, List.map_nil]); first | done | rfl | (simp only [List.length_drop, List.length_take]; rfl)) ?_; (with_reducible refine (abacistref02_Of.calls a1 t264 _ A4.out).mono ?_); rintro e w' ⟨rfl, ⟨nd, rfl⟩⟩; refine ⟨_, rfl, ?_⟩))
    go_ret
    exact ⟨by first | rfl | (simp; done) | (simp [*]; done), by repeat (first | exact Drawn0.refl _ | apply Drawn0.step)⟩
  · rw [if_neg c5] at H
    have c5b0 : decide (t264 ≤ t263) = false := decide_eq_false c5
    clear c5
    obtain rfl := Option.some.inj H
    go_enter Tryd.func31, Tryd.ntmps31
    go_wp2_with (first | ((with_reducible refine gate_callee (f := 44) rfl ?_); refine goesL_ (some 6) rfl rfl Tryd.func44 (by kernel_rfl) rfl #[.int .u64 a0] rfl (by (try simp only [List.map_toArray, List.map_cons, List.map_nil]); first | done | rfl | (simp only [List.length_drop, List.length_take]; rfl)) ?_; (with_reducible refine (abacistref02_Of.calls a0 t263 _ A3.out).mono ?_); rintro e w' ⟨rfl, ⟨nd, rfl⟩⟩; refine ⟨_, rfl, ?_⟩) | ((with_reducible refine gate_callee (f := 44) rfl ?_); refine goesL_ (some 8) rfl rfl Tryd.func44 (by kernel_rfl) rfl #[.int .u64 a1] rfl (by (try simp only [List.map_toArray, List.map_cons, List.map_nil]); first | done | rfl | (simp only [List.length_drop, List.length_take]; rfl)) ?_; (with_reducible refine (abacistref02_Of.calls a1 t264 _ A4.out).mono ?_); rintro e w' ⟨rfl, ⟨nd, rfl⟩⟩; refine ⟨_, rfl, ?_⟩))
    go_ret
    exact ⟨by first | rfl | (simp; done) | (simp [*]; done), by repeat (first | exact Drawn0.refl _ | apply Drawn0.step)⟩

end Go.Proofs.YtjooodbjbidjiaaDoor.PConvTells
