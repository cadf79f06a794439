-- Written for this claim by wip/gen/mk.sh, this session's own driver over the kit's print
import Derived.Test.YtnmjomcpkckihaaDoorPChirpTwosx0
import Derived.Test.YtnmjomcpkckihaaDoorPChirpTwosx1
import Derived.Test.YtnmjomcpkckihaaDoorPChirpTwosx2
import Derived.Test.YtnmjomcpkckihaaDoorPChirpTwosx3
import Derived.Test.YtnmjomcpkckihaaDoorPChirpTwosx4
namespace Go.Proofs.YtnmjomcpkckihaaDoor.PChirpTwos
open Go.RowKit Go.Proofs.YtnmjomcpkckihaaDoorW.PrintWords Go.Proofs.YtnmjomcpkckihaaDoorW.PrintLast Go.Proofs.YtnmjomcpkckihaaDoorW.PrintMore
attribute [local go_sem] max2_int min2_int max_two min_two max_three min_three max_four min_four   -- for this text's walks alone
set_option linter.unusedVariables false
set_option linter.unusedSimpArgs false

/-! ### kern2_New: function 62 (by hand) -/
set_option maxHeartbeats 8000000 in
set_option maxRecDepth 100000 in
theorem kern2_New.calls (k : Nat) (a : Int) (t0 t1 : List Int) (e0 e1 s es : Int) (w : World) (h0 : decide (a < 0) = false) (h1 : decide (20 < a) = false) (H0 : twid_Table.f k a 0 = some (t0, e0)) (H1 : twid_Table.f k a 1 = some (t1, e1)) (HS : twid_Share.f k a = some (s, es)) :
    Calls Tryd.prog 62 #[.int .i64 a] w fun e w' => ∃ (v0 v1 : Value), e = .returned (.pointer (some ⟨w.heap.size, 0, none⟩)) ∧ Below w.heap.size w w' ∧ w'.heap[w.heap.size]? = some (.cells #[v0, v1, .int .u64 s, .int .i64 a] 99 (0,0)) ∧ Kd.R (Kd.int .u64) 23 w' w.heap.size (fun j => j ≠ w.heap.size) v0 t0 ∧ Kd.R (Kd.int .u64) 23 w' w.heap.size (fun j => j ≠ w.heap.size) v1 t1 := by
  have A0 := Aside0.mk H0
  have A1 := Aside0.mk H1
  have AS := Aside0.mk HS
  clear H0 H1 HS
  go_enter Tryd.func62, Tryd.ntmps62
  go_wp2
  have X := Aside0.mk (show (w.alloc (.cells #[.slice none 0 0, .slice none 0 0, .int .u64 0, .int .i64 a] 99)).heap[w.heap.size]? = some (.cells #[.slice none 0 0, .slice none 0 0, .int .u64 0, .int .i64 a] 99 (0,0)) from Array.getElem?_push_size)
  have B := Aside0.mk ((Below.refl w.heap.size w).alloc (Nat.le_refl _) (.cells #[.slice none 0 0, .slice none 0 0, .int .u64 0, .int .i64 a] 99))
  have Z := Aside0.mk (show w.heap.size < (w.alloc (.cells #[.slice none 0 0, .slice none 0 0, .int .u64 0, .int .i64 a] 99)).heap.size by simp)
  obtain ⟨b, hb⟩ : ∃ b, b = w.heap.size := ⟨_, rfl⟩
  rw [← hb] at X B Z ⊢
  have Hb := Aside0.mk hb
  clear hb
  generalize w.alloc (.cells #[.slice none 0 0, .slice none 0 0, .int .u64 0, .int .i64 a] 99) = W1 at X B Z ⊢
  refine wp_loop_rounds 3 ?_
  rw [rounds_succ]
  go_wp2
  go_region_with ((go_at_call 69; (with_reducible refine (twid_Table.calls k a 0 t0 e0 _ A0.out).mono ?_); rintro e w1 ⟨v0, rfl, hR0, hB0⟩; obtain ⟨A_, c_, rfl⟩ := Kd.R_slice hR0; have X1 := (hB0.block _ Z.out).trans X.out; have f0 := hk_blk_frozen X1 0; have c0 := hk_blk_cell X1 0 _ rfl; have hX1 := Aside0.mk X1; clear X1; have X1 := hX1; clear hX1; have hR0 := Aside0.mk hR0; have hB0 := Aside0.mk hB0))
  clear c0 f0
  have X2 := Aside0.mk (blk_put X1.out 0 (.slice A_ t0.length c_) rfl)
  have R2 := Aside0.mk (Kd.R_far (hk_R_out hR0.out Z.out) (p := ⟨b, 0, none⟩) (fun k hk => hk) (.slice A_ t0.length c_))
  have B2 := Aside0.mk (((B.out.drew.trans (hB0.out.mono (Nat.le_of_lt Z.out))).setCell (p := ⟨b, 0, none⟩) (Nat.le_refl _) (.slice A_ t0.length c_)))
  have Z2 := Aside0.mk (show b < (w1.setCell ⟨b, 0, none⟩ (.slice A_ t0.length c_)).heap.size by have := hB0.out.size; have := Z.out; simp at *; omega)
  clear X1 hR0 hB0 X B Z
  generalize w1.setCell ⟨b, 0, none⟩ (.slice A_ t0.length c_) = W2 at X2 R2 B2 Z2 ⊢
  go_wp2
  rw [rounds_succ]
  go_wp2
  go_region_with ((go_at_call 69; (with_reducible refine (twid_Table.calls k a 1 t1 e1 _ A1.out).mono ?_); rintro e w3 ⟨v1, rfl, hR1, hB1⟩; obtain ⟨D_, d_, rfl⟩ := Kd.R_slice hR1; have X3 := (hB1.block _ Z2.out).trans X2.out; have f0 := hk_blk_frozen X3 1; have c0 := hk_blk_cell X3 1 _ rfl; have hX3 := Aside0.mk X3; clear X3; have X3 := hX3; clear hX3; have hR1 := Aside0.mk hR1; have hB1 := Aside0.mk hB1))
  clear c0 f0
  have X4 := Aside0.mk (blk_put X3.out 1 (.slice D_ t1.length d_) rfl)
  have R4 := Aside0.mk (Kd.R_far (hk_R_out hR1.out Z2.out) (p := ⟨b, 1, none⟩) (fun k hk => hk) (.slice D_ t1.length d_))
  have R2' := Aside0.mk (Kd.R_far (Kd.R_below (Kd.R_drew R2.out) hB1.out) (p := ⟨b, 1, none⟩) (fun k hk => hk) (.slice D_ t1.length d_))
  have B4 := Aside0.mk (((B2.out.drew.trans (hB1.out.mono (Nat.le_of_lt Z2.out))).setCell (p := ⟨b, 1, none⟩) (Nat.le_refl _) (.slice D_ t1.length d_)))
  have Z4 := Aside0.mk (show b < (w3.setCell ⟨b, 1, none⟩ (.slice D_ t1.length d_)).heap.size by have := hB1.out.size; have := Z2.out; simp at *; omega)
  clear X3 hR1 hB1 X2 B2 Z2 R2
  generalize w3.setCell ⟨b, 1, none⟩ (.slice D_ t1.length d_) = W4 at X4 R4 R2' B4 Z4 ⊢
  go_wp2
  rw [rounds_succ]
  go_wp2_with ((go_at_call 65; (with_reducible refine (twid_Share.calls k a s es _ AS.out).mono ?_); rintro e w5 ⟨rfl, hBs⟩; have X5 := (hBs.block _ Z4.out).trans X4.out; have f5 := hk_blk_frozen X5 2; have c5 := hk_blk_cell X5 2 _ rfl; have hX5 := Aside0.mk X5; clear X5; have X5 := hX5; clear hX5; have hBs := Aside0.mk hBs))
  clear f5 c5
  have X6 := Aside0.mk (blk_put X5.out 2 (.int .u64 s) rfl)
  have B6 := Aside0.mk ((B4.out.trans (hBs.out.mono (Nat.le_of_lt Z4.out))).setCell (p := ⟨b, 2, none⟩) (Nat.le_refl _) (.int .u64 s))
  have R6 := Aside0.mk (Kd.R_far (Kd.R_below R2'.out hBs.out) (p := ⟨b, 2, none⟩) (fun k hk => hk) (.int .u64 s))
  have R6' := Aside0.mk (Kd.R_far (Kd.R_below R4.out hBs.out) (p := ⟨b, 2, none⟩) (fun k hk => hk) (.int .u64 s))
  generalize w5.setCell ⟨b, 2, none⟩ (.int .u64 s) = W6 at X6 B6 R6 R6' ⊢
  go_ret
  rw [← Hb.out]
  exact ⟨_, _, rfl, B6.out, X6.out, R6.out, R6'.out⟩
set_option maxHeartbeats 800000 in
set_option maxRecDepth 100000 in
theorem kern2_New.none (a : Int) (w : World) (h : a < 0 ∨ 20 < a) : Calls Tryd.prog 62 #[.int .i64 a] w fun e w' => e = .returned (.pointer none) ∧ Drawn0 w w' := by
  by_cases c : a < 0
  · have d1 : decide (a < 0) = true := decide_eq_true c
    clear c h
    go_enter Tryd.func62, Tryd.ntmps62
    go_wp2
    go_ret
    exact ⟨rfl, by repeat (first | exact Drawn0.refl _ | apply Drawn0.step)⟩
  · have d1 : decide (a < 0) = false := decide_eq_false c
    have d2 : decide (20 < a) = true := decide_eq_true (by omega)
    clear c h
    go_enter Tryd.func62, Tryd.ntmps62
    go_wp2
    go_ret
    exact ⟨rfl, by repeat (first | exact Drawn0.refl _ | apply Drawn0.step)⟩
/-- A kernel's tables, by halves. -/
def hk_tabs2 (n k : Nat) (t0 t1 : List Int) (s : Int) : Prop := ∃ (e0 e1 es : Int), twid_Table.f n (k : Int) 0 = some (t0, e0) ∧ twid_Table.f n (k : Int) 1 = some (t1, e1) ∧ twid_Share.f n (k : Int) = some (s, es)
theorem hk_New2.at (n a : Nat) (t0 t1 : List Int) (s : Int) (w : World) (ha : a ≤ 20) (h : hk_tabs2 n a t0 t1 s) :
    Calls Tryd.prog 62 #[.int .i64 (a : Int)] w fun e w' => ∃ b, e = .returned (.pointer (some ⟨b, 0, none⟩)) ∧ Below w.heap.size w w' ∧ hk_K2 a t0 t1 s w.heap.size w'.heap.size b w' := by
  obtain ⟨e0, e1, es, h1, h2, h3⟩ := h
  refine (kern2_New.calls n a t0 t1 e0 e1 s es w (decide_eq_false (by omega)) (decide_eq_false (by omega)) h1 h2 h3).mono ?_
  rintro e w' ⟨v0, v1, rfl, hB, hX, hR0, hR1⟩
  exact ⟨w.heap.size, rfl, hB, ⟨Nat.le_refl _, blk_lt hX⟩, v0, v1, hX, Kd.R_mono (Kd.R_bound hR0) (fun j hj => hj.2.2.1), Kd.R_mono (Kd.R_bound hR1) (fun j hj => hj.2.2.1)⟩

/-! ### kern4_whole: function 63 -/
def kern4_whole.l0 : Nat → List Int → List Int → Int → Int → Option (List Int)
  | 0, _, _, _, _ => none
  | k + 1, x7, x21, x22, x23 => if x23 < x22 then (if 0 ≤ x23 then (if x23 < (x21.length : Int) then ((gold_Neg.f (rd x21 x23)).bind fun t191 => (if x7.length < 17592186044416 then (kern4_whole.l0 k (x7 ++ [t191]) x21 x22 (wrap64 (x23 + 1))) else (none))) else (none)) else (none)) else (some x7)
def kern4_whole.f (k : Nat) (a0 : Int) (a1 : Int) : Option (List Int) := (twid_Table.f k a0 a1).bind fun bt180 => ((some (([] : List Int) : List Int)).bind fun y184 => (if y184.length + bt180.1.length < 17592186044416 then ((some (y184 ++ bt180.1 : List Int)).bind fun y187 => (if a0 > 0 then (kern4_whole.l0 k y187 bt180.1 (bt180.1.length : Int) 0) else (some y187))) else (none)))
theorem kern4_whole.mono_l : ∀ k, (∀ y0 y1 y2 y3, LeO (kern4_whole.l0 k y0 y1 y2 y3) (kern4_whole.l0 (k + 1) y0 y1 y2 y3))
  | 0 => fun _ _ _ _ r h => by simp [kern4_whole.l0] at h
  | k + 1 => by
    have ih0 := kern4_whole.mono_l k
    · intro y0 y1 y2 y3
      unfold kern4_whole.l0
      repeat' first
      | (with_reducible exact ih0 _ _ _ _)
      | (with_reducible exact twid_Table.mono _ _ _)
      | (with_reducible exact LeO.refl _)
      | (with_reducible exact LeO.none _)
      | (with_reducible refine LeO.ite ?_ ?_)
      | (with_reducible refine LeO.bind ?_ (fun _ => ?_))
      | exact ih0 _ _ _ _
      | exact twid_Table.mono _ _ _
      | exact LeO.none _
      | refine LeO.ite ?_ ?_
      | refine LeO.bind ?_ (fun _ => ?_)
theorem kern4_whole.mono : ∀ a0 a1 k, LeO (kern4_whole.f k a0 a1) (kern4_whole.f (k + 1) a0 a1) := by
  intro a0 a1 k
  have ih0 := kern4_whole.mono_l k
  unfold kern4_whole.f
  repeat' first
      | (with_reducible exact ih0 _ _ _ _)
      | (with_reducible exact twid_Table.mono _ _ _)
      | (with_reducible exact LeO.refl _)
      | (with_reducible exact LeO.none _)
      | (with_reducible refine LeO.ite ?_ ?_)
      | (with_reducible refine LeO.bind ?_ (fun _ => ?_))
      | exact ih0 _ _ _ _
      | exact twid_Table.mono _ _ _
      | exact LeO.none _
      | refine LeO.ite ?_ ?_
      | refine LeO.bind ?_ (fun _ => ?_)
set_option maxHeartbeats 80000000 in
set_option maxRecDepth 100000 in
theorem kern4_whole.calls (k : Nat) (a0 : Int) (a1 : Int) (r : List Int) (w : World) (h : kern4_whole.f k a0 a1 = some r) :
    Calls Tryd.prog 63 #[.int .i64 a0, .int .i64 a1] w fun e w' => ∃ v0_ : Value, e = .returned (v0_) ∧ Kd.R (Kd.int .u64) 23 w' w.heap.size (fun _ => True) v0_ r ∧ Below w.heap.size w w' := by
  have HB := Aside0.mk (Below.refl w.heap.size w)
  have H : ((twid_Table.f k a0 a1).bind fun bt180 => ((some (([] : List Int) : List Int)).bind fun y184 => (if y184.length + bt180.1.length < 17592186044416 then ((some (y184 ++ bt180.1 : List Int)).bind fun y187 => (if a0 > 0 then (kern4_whole.l0 k y187 bt180.1 (bt180.1.length : Int) 0) else (some y187))) else (none)))) = some r := h
  clear h
  replace H := Option.bind_eq_some_iff.mp H
  obtain ⟨⟨t180, t181⟩, A30, H⟩ := H
  replace H : ((some (([] : List Int) : List Int)).bind fun y184 => (if y184.length + t180.length < 17592186044416 then ((some (y184 ++ t180 : List Int)).bind fun y187 => (if a0 > 0 then (kern4_whole.l0 k y187 t180 (t180.length : Int) 0) else (some y187))) else (none))) = some r := H
  have A3 := Aside0.mk A30
  clear A30
  obtain ⟨y184, hy184⟩ : ∃ y_ : List Int, y_ = (([] : List Int)) := ⟨_, rfl⟩
  replace H : (if y184.length + t180.length < 17592186044416 then ((some (y184 ++ t180 : List Int)).bind fun y187 => (if a0 > 0 then (kern4_whole.l0 k y187 t180 (t180.length : Int) 0) else (some y187))) else (none)) = some r := by first | (rw [hy184]; with_reducible exact H) | (have H2_ := (Option.bind_some _ _).symm.trans H; rw [hy184]; with_reducible exact H2_) | (have H2_ := (Option.bind_some _ _).symm.trans H; with_reducible exact H2_) | with_reducible exact H | (rw [hy184]; exact H) | exact H
  have Ny184 := Aside0.mk hy184
  clear hy184
  by_cases c4 : y184.length + t180.length < 17592186044416
  · rw [if_pos c4] at H
    have LMc4 := Aside0.mk c4
    clear c4
    obtain ⟨y187, hy187⟩ : ∃ y_ : List Int, y_ = (y184 ++ t180) := ⟨_, rfl⟩
    replace H : (if a0 > 0 then (kern4_whole.l0 k y187 t180 (t180.length : Int) 0) else (some y187)) = some r := by first | (rw [hy187]; with_reducible exact H) | (have H2_ := (Option.bind_some _ _).symm.trans H; rw [hy187]; with_reducible exact H2_) | (have H2_ := (Option.bind_some _ _).symm.trans H; with_reducible exact H2_) | with_reducible exact H | (rw [hy187]; exact H) | exact H
    have Ny187 := Aside0.mk hy187
    clear hy187
    by_cases c5 : a0 > 0
    · rw [if_pos c5] at H
      have c5b0 : decide (0 < a0) = true := decide_eq_true c5
      clear c5
      have H' := Aside0.mk H
      clear H
      go_enter Tryd.func63, Tryd.ntmps63
      go_wp2_with (first | ((with_reducible refine gate_callee (f := 69) rfl ?_); refine goesL_ (some 13) rfl rfl Tryd.func69 (by kernel_rfl) rfl #[.int .i64 a0, .int .i64 a1] rfl (by (try simp only [List.map_toArray, List.map_cons, List.map_nil]); first | done | rfl | (simp only [List.length_drop, List.length_take]; rfl)) ?_; (with_reducible refine (twid_Table.calls k a0 a1 t180 t181 _ A3.out).mono ?_); rintro e w6 ⟨v182, rfl, ho0, hb⟩; refine ⟨_, rfl, ?_⟩; have n0_ := Aside0.mk (Kd.R_lower ho0 (below_size (by repeat (first | (with_reducible first | exact HB.out | apply below_alloc | apply pw_below_drewN | apply below_drew1) | exact HB.out)))); have n1_ := Aside0.mk (below_step (by repeat (first | (with_reducible first | exact HB.out | apply below_alloc | apply pw_below_drewN | apply below_drew1) | exact HB.out)) hb); clear HB; have HO183 := n0_; have HB := n1_; clear n0_ n1_; (try clear hb); (try clear hb2); (try clear hk); (try clear hi); (try clear ho0)) | (go_at_call 69; (with_reducible refine (twid_Table.calls k a0 a1 t180 t181 _ A3.out).mono ?_); rintro e w6 ⟨v182, rfl, ho0, hb⟩; have n0_ := Aside0.mk (Kd.R_lower ho0 (below_size (by repeat (first | (with_reducible first | exact HB.out | apply below_alloc | apply pw_below_drewN | apply below_drew1) | exact HB.out)))); have n1_ := Aside0.mk (below_step (by repeat (first | (with_reducible first | exact HB.out | apply below_alloc | apply pw_below_drewN | apply below_drew1) | exact HB.out)) hb); clear HB; have HO183 := n0_; have HB := n1_; clear n0_ n1_; (try clear hb); (try clear hb2); (try clear hk); (try clear hi); (try clear ho0)) | ((with_reducible refine gate_dst (N := 16) rfl ?_); refine Kd.R_lit (Kd.int .u64) _ 23 ?hg (N := 16) ?hd (xs := ([] : List Int)) (inner := []) (ok := fun _ => True) (okp := fun _ => True) ?hr ?hp (fun _ hk => hk) trivial (Below.refl _ _) (Nat.le_refl _) (by simp) ?_; (case hd => rfl); (case hg => rfl); (case hr => first | (go_simp; done) | (go_simp; rfl)); (case hp => exact (Reps.none _ _)); intro v185 w7 ho8 hb hg_ hnew_; clear hg_ hnew_; (first | rw [← Ny184.out] at ho8 | (simp only [Int.reduceToNat] at ho8; rw [← Ny184.out] at ho8)); have n0_ := Aside0.mk (Kd.R_elder' (by (with_reducible repeat (first | apply Kd.R_alloc | apply Kd.R_drewN | apply Kd.R_drew)); exact HO183.out) (Kd.R_base ho8) hb); have n1_ := Aside0.mk (Kd.R_lower (Kd.R_new' ho8 (Kd.R_lt (by (with_reducible repeat (first | apply Kd.R_alloc | apply Kd.R_drewN | apply Kd.R_drew)); exact HO183.out))) (below_size (by repeat (first | (with_reducible first | exact HB.out | apply below_alloc | apply pw_below_drewN | apply below_drew1) | exact HB.out)))); have n2_ := Aside0.mk (below_step (by repeat (first | (with_reducible first | exact HB.out | apply below_alloc | apply pw_below_drewN | apply below_drew1) | exact HB.out)) hb); clear HO183; clear HB; have HO183 := n0_; have HO186 := n1_; have HB := n2_; clear n0_ n1_ n2_; clear hb ho8; obtain ⟨Ao10, co10, eo10⟩ := Kd.R_slice HO183.out; subst eo10) | ((with_reducible refine gate_builtin (b := .append) (xs := #[.tmp 16, .tmp 17]) rfl ?_); at_builtin; refine Kd.R_append_rows (Kd.int .u64) (w0 := w) w.heap.size rfl (.tmp 16) (.tmp 17) 22 23 (.int .u64 0) 8 rfl Tryd.underlying22 info23 rfl (by decide) (by omega) v185 y184 t180 _ _ _ (fun k_ => some k_ ≠ (.slice Ao10 t180.length co10 : Value).ownBlock) (fun _ => False) rfl rfl ?aO ?aR (fun _ _ h => h) (fun _ h => h.elim) ?aF ?aB ?aS ?aL ?_; (case aR => repeat (first | exact (Kd.R_reads' HO183.out).2.2 | (with_reducible refine Kd.C_alloc ?_ _) | (with_reducible refine Kd.C_drewN ?_ _) | (with_reducible refine Kd.C_drew ?_))); (case aB => exact (by repeat (first | (with_reducible first | exact HB.out | apply below_alloc | apply pw_below_drewN | apply below_drew1) | exact HB.out))); (case aF => exact (fun k_ hk => Kd.fresh' (Kd.R_lt (by (with_reducible repeat (first | apply Kd.R_alloc | apply Kd.R_drewN | apply Kd.R_drew)); exact HO183.out)) k_ hk)); (case aO => exact (by (with_reducible repeat (first | apply Kd.R_alloc | apply Kd.R_drewN | apply Kd.R_drew)); exact Kd.R_mono HO186.out (fun _ hk => hk.2))); (case aS => exact (below_size (by repeat (first | (with_reducible first | exact HB.out | apply below_alloc | apply pw_below_drewN | apply below_drew1) | exact HB.out)))); (case aL => have := LMc4.out; omega); intro v188 w9 ho hb hg hat; rw [← Ny187.out] at ho; have n0_ := Aside0.mk (Kd.R_after (ok := (fun _ => True)) (by (with_reducible repeat (first | apply Kd.R_alloc | apply Kd.R_drewN | apply Kd.R_drew)); exact HO183.out) hg hat); have n1_ := Aside0.mk (hb); have n2_ := Aside0.mk (ho); clear HO183; clear HB; clear HO186; have HO183 := n0_; have HB := n1_; have HO189 := n2_; clear n0_ n1_ n2_; clear ho hb hg hat))
      go_loopg [7, 23] k (fun kq v7 v23 w' => ∃ (x7_1 : List Int) (x23_1 : Int), v23 = .int .i64 x23_1 ∧ Aside0 (kern4_whole.l0 kq x7_1 t180 (t180.length : Int) x23_1 = some r) ∧ Aside0 (kq ≤ k) ∧ Aside0 (Kd.R (Kd.int .u64) 23 w' w.heap.size (fun k_ => some k_ ≠ ((.slice Ao10 t180.length co10) : Value).ownBlock) v7 x7_1) ∧ Aside0 (Kd.R (Kd.int .u64) 23 w' w.heap.size (fun k_ => some k_ ≠ (v7 : Value).ownBlock) (.slice Ao10 t180.length co10) t180) ∧ Aside0 (Below w.heap.size w w'))
      case atStart => exact ⟨(y187), (0), (by first | rfl | (simp; done) | (simp [*]; done)), H', ⟨Nat.le_refl _⟩, ⟨by (with_reducible repeat (first | apply Kd.R_alloc | apply Kd.R_drewN | apply Kd.R_drew)); exact HO189.out⟩, ⟨by (with_reducible repeat (first | apply Kd.R_alloc | apply Kd.R_drewN | apply Kd.R_drew)); exact Kd.R_mono HO183.out (fun _ hk => hk.2)⟩, ⟨by repeat (first | (with_reducible first | exact HB.out | apply below_alloc | apply pw_below_drewN | apply below_drew1) | exact HB.out)⟩⟩
      case round =>
        clear H'
        try clear p2
        try clear c4
        try clear c5
        try clear c5b0
        try clear c6
        obtain ⟨x7_1, x23_1, rfl, HA, HK1, HO_7, HO_21, HB⟩ := hrel
        cases gk with
        | zero => exact absurd HA.out (by simp [kern4_whole.l0])
        | succ k1 =>
          have H := HA.out
          clear HA
          simp only [kern4_whole.l0] at H
          by_cases c11 : x23_1 < (t180.length : Int)
          · rw [if_pos c11] at H
            have c11b0 : decide (x23_1 < (t180.length : Int)) = true := decide_eq_true c11
            clear c11
            by_cases c12 : 0 ≤ x23_1
            · rw [if_pos c12] at H
              have c12b0 : decide (0 ≤ x23_1) = true := decide_eq_true c12
              clear c12
              by_cases c13 : x23_1 < (t180.length : Int)
              · rw [if_pos c13] at H
                have c13b0 : decide (x23_1 < (t180.length : Int)) = true := decide_eq_true c13
                clear c13
                replace H := Option.bind_eq_some_iff.mp H
                obtain ⟨t191, A140, H⟩ := H
                replace H : (if x7_1.length < 17592186044416 then (kern4_whole.l0 k1 (x7_1 ++ [t191]) t180 (t180.length : Int) (wrap64 (x23_1 + 1))) else (none)) = some r := H
                have A14 := Aside0.mk A140
                clear A140
                by_cases c15 : x7_1.length < 17592186044416
                · rw [if_pos c15] at H
                  have LMc15 := Aside0.mk c15
                  clear c15
                  obtain ⟨y192, hy192⟩ : ∃ y_ : List Int, y_ = (x7_1 ++ [t191]) := ⟨_, rfl⟩
                  replace H : (kern4_whole.l0 k1 y192 t180 (t180.length : Int) (wrap64 (x23_1 + 1))) = some r := by first | (rw [hy192]; with_reducible exact H) | (have H2_ := (Option.bind_some _ _).symm.trans H; rw [hy192]; with_reducible exact H2_) | (have H2_ := (Option.bind_some _ _).symm.trans H; with_reducible exact H2_) | with_reducible exact H | (rw [hy192]; exact H) | exact H
                  have Ny192 := Aside0.mk hy192
                  clear hy192
                  have H' := Aside0.mk H
                  clear H
                  have p190 : 0 ≤ (x23_1 : Int) := of_decide_eq_true (by first | (with_reducible assumption) | assumption)
                  have q190 : x23_1 < (t180.length : Int) := of_decide_eq_true (by first | (with_reducible assumption) | assumption)
                  (try (first | (have hq_ := Kd.R_reads' HO_21.out; clear hq_) | (obtain ⟨AoQ190, coQ190, eoQ190⟩ := Kd.R_slice HO_21.out; subst eoQ190)))
                  obtain ⟨ad190, e190, hx190_0⟩ := Kd.at_int (Kd.R_reads' HO_21.out).2.2 x23_1 p190 q190
                  cases e190
                  replace p190 := eq_true p190
                  replace q190 := eq_true q190
                  go_wp2_with (first | ((with_reducible refine gate_callee (f := 70) rfl ?_); refine goesL_ (some 29) rfl rfl Tryd.func70 (by kernel_rfl) rfl #[.int .u64 (rd t180 x23_1)] rfl (by (try simp only [List.map_toArray, List.map_cons, List.map_nil]); first | done | rfl | (simp only [List.length_drop, List.length_take]; rfl)) ?_; (with_reducible refine (gold_Neg.calls (rd t180 x23_1) t191 _ A14.out).mono ?_); rintro e w' ⟨rfl, ⟨nd, rfl⟩⟩; refine ⟨_, rfl, ?_⟩) | (go_at_call 70; (with_reducible refine (gold_Neg.calls (rd t180 x23_1) t191 _ A14.out).mono ?_); rintro e w' ⟨rfl, ⟨nd, rfl⟩⟩) | ((with_reducible refine gate_builtin (b := .append) (xs := #[.tmp 27, .tmp 30]) rfl ?_); at_builtin; refine Kd.R_append (Kd.int .u64) (w0 := w) w.heap.size rfl (.tmp 27) (.tmp 30) 22 23 (.int .u64 0) 8 rfl Tryd.underlying22 info23 rfl (by decide) (by omega) u7 x7_1 t191 [.int .u64 t191] (fun k_ => some k_ ≠ (.slice (some ad190) t180.length co10 : Value).ownBlock) (fun _ => False) rfl rfl ?aP (fun _ hk => hk.elim) ?aF ?aO ?aB ?aS ?aL ?_; (case aP => exact rfl); (case aB => exact (by repeat (first | (with_reducible first | exact HB.out | apply below_alloc | apply pw_below_drewN | apply below_drew1) | exact HB.out))); (case aF => exact (fun k_ hk => Kd.fresh' (Kd.R_lt (by (with_reducible repeat (first | apply Kd.R_alloc | apply Kd.R_drewN | apply Kd.R_drew)); exact HO_21.out)) k_ hk)); (case aO => exact (by (with_reducible repeat (first | apply Kd.R_alloc | apply Kd.R_drewN | apply Kd.R_drew)); exact HO_7.out)); (case aS => exact (below_size (by repeat (first | (with_reducible first | exact HB.out | apply below_alloc | apply pw_below_drewN | apply below_drew1) | exact HB.out)))); (case aL => have := LMc15.out; omega); intro v193 w16 ho hb hg hat; rw [← Ny192.out] at ho; have n0_ := Aside0.mk (Kd.R_after (ok := (fun _ => True)) (by (with_reducible repeat (first | apply Kd.R_alloc | apply Kd.R_drewN | apply Kd.R_drew)); exact Kd.R_mono HO_21.out (fun _ hk => ⟨trivial, hk⟩)) hg hat); have n1_ := Aside0.mk (hb); have n2_ := Aside0.mk (ho); clear HO_21; clear HB; clear HO_7; have HO_21 := n0_; have HB := n1_; have HO194 := n2_; clear n0_ n1_ n2_; clear ho hb hg hat))
                  (first | go_roundg k1 | (simp only [add_plain] at *; go_roundg k1))
                  case measure => have := HK1.out; omega
                  case rel => exact ⟨(y192), (wrap64 (x23_1 + 1)), (by first | rfl | (simp; done) | (simp [*]; done)), H', ⟨by have := HK1.out; omega⟩, ⟨by (with_reducible repeat (first | apply Kd.R_alloc | apply Kd.R_drewN | apply Kd.R_drew)); exact HO194.out⟩, ⟨by (with_reducible repeat (first | apply Kd.R_alloc | apply Kd.R_drewN | apply Kd.R_drew)); exact Kd.R_mono HO_21.out (fun _ hk => hk.2)⟩, ⟨by repeat (first | (with_reducible first | exact HB.out | apply below_alloc | apply pw_below_drewN | apply below_drew1) | exact HB.out)⟩⟩
                · rw [if_neg c15] at H
                  exact absurd H (by simp)
              · rw [if_neg c13] at H
                exact absurd H (by simp)
            · rw [if_neg c12] at H
              exact absurd H (by simp)
          · rw [if_neg c11] at H
            have c11b0 : decide (x23_1 < (t180.length : Int)) = false := decide_eq_false c11
            clear c11
            obtain rfl := Option.some.inj H
            go_wp2
            go_ret
            exact ⟨_, by first | rfl | (simp [errW_none, errW_some] <;> rfl) | (simp [*, errW_none, errW_some] <;> rfl), by (with_reducible repeat (first | apply Kd.R_alloc | apply Kd.R_drewN | apply Kd.R_drew)); exact Kd.R_mono HO_7.out (fun _ hk => trivial), by repeat (first | (with_reducible first | exact HB.out | apply below_alloc | apply pw_below_drewN | apply below_drew1) | exact HB.out)⟩
    · rw [if_neg c5] at H
      have c5b0 : decide (0 < a0) = false := decide_eq_false c5
      clear c5
      obtain rfl := Option.some.inj H
      go_enter Tryd.func63, Tryd.ntmps63
      go_wp2_with (first | ((with_reducible refine gate_callee (f := 69) rfl ?_); refine goesL_ (some 13) rfl rfl Tryd.func69 (by kernel_rfl) rfl #[.int .i64 a0, .int .i64 a1] rfl (by (try simp only [List.map_toArray, List.map_cons, List.map_nil]); first | done | rfl | (simp only [List.length_drop, List.length_take]; rfl)) ?_; (with_reducible refine (twid_Table.calls k a0 a1 t180 t181 _ A3.out).mono ?_); rintro e w17 ⟨v182, rfl, ho0, hb⟩; refine ⟨_, rfl, ?_⟩; have n0_ := Aside0.mk (Kd.R_lower ho0 (below_size (by repeat (first | (with_reducible first | exact HB.out | apply below_alloc | apply pw_below_drewN | apply below_drew1) | exact HB.out)))); have n1_ := Aside0.mk (below_step (by repeat (first | (with_reducible first | exact HB.out | apply below_alloc | apply pw_below_drewN | apply below_drew1) | exact HB.out)) hb); clear HB; have HO183 := n0_; have HB := n1_; clear n0_ n1_; (try clear hb); (try clear hb2); (try clear hk); (try clear hi); (try clear ho0)) | (go_at_call 69; (with_reducible refine (twid_Table.calls k a0 a1 t180 t181 _ A3.out).mono ?_); rintro e w17 ⟨v182, rfl, ho0, hb⟩; have n0_ := Aside0.mk (Kd.R_lower ho0 (below_size (by repeat (first | (with_reducible first | exact HB.out | apply below_alloc | apply pw_below_drewN | apply below_drew1) | exact HB.out)))); have n1_ := Aside0.mk (below_step (by repeat (first | (with_reducible first | exact HB.out | apply below_alloc | apply pw_below_drewN | apply below_drew1) | exact HB.out)) hb); clear HB; have HO183 := n0_; have HB := n1_; clear n0_ n1_; (try clear hb); (try clear hb2); (try clear hk); (try clear hi); (try clear ho0)) | ((with_reducible refine gate_dst (N := 16) rfl ?_); refine Kd.R_lit (Kd.int .u64) _ 23 ?hg (N := 16) ?hd (xs := ([] : List Int)) (inner := []) (ok := fun _ => True) (okp := fun _ => True) ?hr ?hp (fun _ hk => hk) trivial (Below.refl _ _) (Nat.le_refl _) (by simp) ?_; (case hd => rfl); (case hg => rfl); (case hr => first | (go_simp; done) | (go_simp; rfl)); (case hp => exact (Reps.none _ _)); intro v185 w18 ho19 hb hg_ hnew_; clear hg_ hnew_; (first | rw [← Ny184.out] at ho19 | (simp only [Int.reduceToNat] at ho19; rw [← Ny184.out] at ho19)); have n0_ := Aside0.mk (Kd.R_elder' (by (with_reducible repeat (first | apply Kd.R_alloc | apply Kd.R_drewN | apply Kd.R_drew)); exact HO183.out) (Kd.R_base ho19) hb); have n1_ := Aside0.mk (Kd.R_lower (Kd.R_new' ho19 (Kd.R_lt (by (with_reducible repeat (first | apply Kd.R_alloc | apply Kd.R_drewN | apply Kd.R_drew)); exact HO183.out))) (below_size (by repeat (first | (with_reducible first | exact HB.out | apply below_alloc | apply pw_below_drewN | apply below_drew1) | exact HB.out)))); have n2_ := Aside0.mk (below_step (by repeat (first | (with_reducible first | exact HB.out | apply below_alloc | apply pw_below_drewN | apply below_drew1) | exact HB.out)) hb); clear HO183; clear HB; have HO183 := n0_; have HO186 := n1_; have HB := n2_; clear n0_ n1_ n2_; clear hb ho19; obtain ⟨Ao21, co21, eo21⟩ := Kd.R_slice HO183.out; subst eo21) | ((with_reducible refine gate_builtin (b := .append) (xs := #[.tmp 16, .tmp 17]) rfl ?_); at_builtin; refine Kd.R_append_rows (Kd.int .u64) (w0 := w) w.heap.size rfl (.tmp 16) (.tmp 17) 22 23 (.int .u64 0) 8 rfl Tryd.underlying22 info23 rfl (by decide) (by omega) v185 y184 t180 _ _ _ (fun k_ => some k_ ≠ (.slice Ao21 t180.length co21 : Value).ownBlock) (fun _ => False) rfl rfl ?aO ?aR (fun _ _ h => h) (fun _ h => h.elim) ?aF ?aB ?aS ?aL ?_; (case aR => repeat (first | exact (Kd.R_reads' HO183.out).2.2 | (with_reducible refine Kd.C_alloc ?_ _) | (with_reducible refine Kd.C_drewN ?_ _) | (with_reducible refine Kd.C_drew ?_))); (case aB => exact (by repeat (first | (with_reducible first | exact HB.out | apply below_alloc | apply pw_below_drewN | apply below_drew1) | exact HB.out))); (case aF => exact (fun k_ hk => Kd.fresh' (Kd.R_lt (by (with_reducible repeat (first | apply Kd.R_alloc | apply Kd.R_drewN | apply Kd.R_drew)); exact HO183.out)) k_ hk)); (case aO => exact (by (with_reducible repeat (first | apply Kd.R_alloc | apply Kd.R_drewN | apply Kd.R_drew)); exact Kd.R_mono HO186.out (fun _ hk => hk.2))); (case aS => exact (below_size (by repeat (first | (with_reducible first | exact HB.out | apply below_alloc | apply pw_below_drewN | apply below_drew1) | exact HB.out)))); (case aL => have := LMc4.out; omega); intro v188 w20 ho hb hg hat; rw [← Ny187.out] at ho; have n0_ := Aside0.mk (Kd.R_after (ok := (fun _ => True)) (by (with_reducible repeat (first | apply Kd.R_alloc | apply Kd.R_drewN | apply Kd.R_drew)); exact HO183.out) hg hat); have n1_ := Aside0.mk (hb); have n2_ := Aside0.mk (ho); clear HO183; clear HB; clear HO186; have HO183 := n0_; have HB := n1_; have HO189 := n2_; clear n0_ n1_ n2_; clear ho hb hg hat))
      go_ret
      exact ⟨_, by first | rfl | (simp [errW_none, errW_some] <;> rfl) | (simp [*, errW_none, errW_some] <;> rfl), by (with_reducible repeat (first | apply Kd.R_alloc | apply Kd.R_drewN | apply Kd.R_drew)); exact Kd.R_mono HO189.out (fun _ hk => trivial), by repeat (first | (with_reducible first | exact HB.out | apply below_alloc | apply pw_below_drewN | apply below_drew1) | exact HB.out)⟩
  · rw [if_neg c4] at H
    exact absurd H (by simp)

/-! ### kern4_Unit: function 64 -/
def kern4_Unit.f (k : Nat) (a0 : Int) : Option (Int × Int) := (twid_Root.f k 2 a0).bind fun bt195 => (some (bt195.1, bt195.2))
theorem kern4_Unit.mono : ∀ a0 k, LeO (kern4_Unit.f k a0) (kern4_Unit.f (k + 1) a0) := by
  intro a0 k
  unfold kern4_Unit.f
  repeat' first
      | (with_reducible exact twid_Root.mono _ _ _)
      | (with_reducible exact LeO.refl _)
      | (with_reducible exact LeO.none _)
      | (with_reducible refine LeO.ite ?_ ?_)
      | (with_reducible refine LeO.bind ?_ (fun _ => ?_))
      | exact twid_Root.mono _ _ _
      | exact LeO.none _
      | refine LeO.ite ?_ ?_
      | refine LeO.bind ?_ (fun _ => ?_)
set_option maxHeartbeats 8000000 in
set_option maxRecDepth 100000 in
theorem kern4_Unit.calls (k : Nat) (a0 : Int) (r1 : Int) (r2 : Int) (w : World) (h : kern4_Unit.f k a0 = some (r1, r2)) :
    Calls Tryd.prog 64 #[.int .i64 a0] w fun e w' => e = .returned (.tuple #[.int .u64 r1, .int .i64 r2]) ∧ Below w.heap.size w w' := by
  have HB := Aside0.mk (Below.refl w.heap.size w)
  have H : ((twid_Root.f k 2 a0).bind fun bt195 => (some (bt195.1, bt195.2))) = some (r1, r2) := h
  clear h
  replace H := Option.bind_eq_some_iff.mp H
  obtain ⟨⟨t195, t196⟩, A20, H⟩ := H
  replace H : (some (t195, t196)) = some (r1, r2) := H
  have A2 := Aside0.mk A20
  clear A20
  simp only [Option.some.injEq, Prod.mk.injEq] at H
  obtain ⟨rfl, rfl⟩ := H
  go_enter Tryd.func64, Tryd.ntmps64
  go_wp2_with (first | ((with_reducible refine gate_callee (f := 71) rfl ?_); refine goesL_ (some 5) rfl rfl Tryd.func71 (by kernel_rfl) rfl #[.int .i64 2, .int .i64 a0] rfl (by (try simp only [List.map_toArray, List.map_cons, List.map_nil]); first | done | rfl | (simp only [List.length_drop, List.length_take]; rfl)) ?_; (with_reducible refine (twid_Root.calls k 2 a0 t195 t196 _ A2.out).mono ?_); rintro e w3 ⟨rfl, hb⟩; refine ⟨_, rfl, ?_⟩; have n0_ := Aside0.mk (below_step (by repeat (first | (with_reducible first | exact HB.out | apply below_alloc | apply pw_below_drewN | apply below_drew1) | exact HB.out)) hb); clear HB; have HB := n0_; clear n0_; (try clear hb); (try clear hb2); (try clear hk); (try clear hi)))
  go_ret2
  exact ⟨by first | rfl | (simp [errW_none, errW_some] <;> rfl) | (simp [*, errW_none, errW_some] <;> rfl), by repeat (first | (with_reducible first | exact HB.out | apply below_alloc | apply pw_below_drewN | apply below_drew1) | exact HB.out)⟩

/-! ### kern4_New: function 58 (by hand) -/
set_option maxHeartbeats 8000000 in
set_option maxRecDepth 100000 in
theorem kern4_New.calls (k : Nat) (a : Int) (k0 k1 t0 t1 : List Int) (ke0 ke1 u0 u1 e0 e1 s es : Int) (w : World) (h0 : decide (a < 0) = false) (h1 : decide (20 < a) = false) (K0 : twid_Table.f k a 0 = some (k0, ke0)) (K1 : twid_Table.f k a 1 = some (k1, ke1)) (H0 : kern4_whole.f k a 0 = some t0) (H1 : kern4_whole.f k a 1 = some t1) (U0 : kern4_Unit.f k 0 = some (u0, e0)) (U1 : kern4_Unit.f k 1 = some (u1, e1)) (HS : twid_Share.f k a = some (s, es)) :
    Calls Tryd.prog 58 #[.int .i64 a] w fun e w' => ∃ (b b2 : Nat) (v0 v1 x0 x1 x2 : Value), e = .returned (.pointer (some ⟨b, 0, none⟩)) ∧ w.heap.size ≤ b ∧ w.heap.size ≤ b2 ∧ Below w.heap.size w w' ∧ w'.heap[b]? = some (.cells #[.pointer (some ⟨b2, 0, none⟩), v0, v1, .int .u64 u0, .int .u64 u1, .int .u64 s] 85 (0,0)) ∧ w'.heap[b2]? = some (.cells #[x0, x1, x2, .int .i64 a] 99 (0, 0)) ∧
      Kd.R (Kd.int .u64) 23 w' w.heap.size (fun j => j ≠ b) v0 t0 ∧ Kd.R (Kd.int .u64) 23 w' w.heap.size (fun j => j ≠ b) v1 t1 := by
  have A0 := Aside0.mk H0
  have A1 := Aside0.mk H1
  have AS := Aside0.mk HS
  have AU0 := Aside0.mk U0
  have AU1 := Aside0.mk U1
  have AK0 := Aside0.mk K0
  have AK1 := Aside0.mk K1
  clear H0 H1 HS U0 U1 K0 K1
  go_enter Tryd.func58, Tryd.ntmps58
  go_wp2_with ((go_at_call 62; (with_reducible refine (kern2_New.calls k a k0 k1 ke0 ke1 s es _ h0 h1 AK0.out AK1.out AS.out).mono ?_); rintro e w1 ⟨x0, x1, rfl, hB1, hX1, _, _⟩; have hB1 := Aside0.mk hB1; have hX1 := Aside0.mk hX1))
  have X := Aside0.mk (show (w1.alloc (.cells #[.pointer (some ⟨w.heap.size, 0, none⟩), .slice none 0 0, .slice none 0 0, .int .u64 0, .int .u64 0, .int .u64 0] 85)).heap[w1.heap.size]? = some (.cells #[.pointer (some ⟨w.heap.size, 0, none⟩), .slice none 0 0, .slice none 0 0, .int .u64 0, .int .u64 0, .int .u64 0] 85 (0, 0)) from Array.getElem?_push_size)
  have hbl := (Below.refl w1.heap.size w1).alloc (Nat.le_refl _) (.cells #[.pointer (some ⟨w.heap.size, 0, none⟩), .slice none 0 0, .slice none 0 0, .int .u64 0, .int .u64 0, .int .u64 0] 85)
  have X2 := Aside0.mk ((hbl.block _ (blk_lt hX1.out)).trans hX1.out)
  have B := Aside0.mk (hB1.out.trans (hbl.mono hB1.out.size))
  have Z := Aside0.mk (show w1.heap.size < (w1.alloc (.cells #[.pointer (some ⟨w.heap.size, 0, none⟩), .slice none 0 0, .slice none 0 0, .int .u64 0, .int .u64 0, .int .u64 0] 85)).heap.size by simp)
  have G := Aside0.mk hB1.out.size
  have hlt := blk_lt hX1.out
  clear hbl hB1 hX1
  obtain ⟨b2, hb2⟩ : ∃ b, b = w.heap.size := ⟨_, rfl⟩
  obtain ⟨b, hb⟩ : ∃ b, b = w1.heap.size := ⟨_, rfl⟩
  rw [← hb] at X Z G ⊢
  generalize w1.alloc (.cells #[.pointer (some ⟨w.heap.size, 0, none⟩), .slice none 0 0, .slice none 0 0, .int .u64 0, .int .u64 0, .int .u64 0] 85) = W1 at X X2 B Z ⊢
  rw [← hb2] at X X2 ⊢
  have HB2 := Aside0.mk hb2
  have HN2 := Aside0.mk (show b2 ≠ b by omega)
  clear hb2 hb hlt
  refine wp_loop_rounds 3 ?_
  rw [rounds_succ]
  go_wp2_with fail
  have c0 := hk_blk_cell X.out 1 _ rfl
  go_region_with ((go_at_call 63; (with_reducible refine (kern4_whole.calls k a 0 t0 _ A0.out).mono ?_); rintro e w2_0 ⟨v_, rfl, hR, hB⟩; obtain ⟨P0, q0, rfl⟩ := Kd.R_slice hR; have n0_ := (hB.block _ Z.out).trans X.out; clear c0; have f0 := hk_blk_frozen n0_ 1; have c0 := hk_blk_cell n0_ 1 _ rfl; have Y := Aside0.mk n0_; clear n0_; have hR := Aside0.mk hR; have hB := Aside0.mk hB))
  clear c0 f0
  have n0_ := Aside0.mk (blk_put Y.out 1 (.slice P0 t0.length q0) rfl)
  have n1_ := Aside0.mk (blk_far ((hB.out.block _ (blk_lt X2.out)).trans X2.out) (p := ⟨b, 1, none⟩) HN2.out (.slice P0 t0.length q0))
  have n2_ := Aside0.mk (below_set (j := 1) (v := (.slice P0 t0.length q0)) (B.out.drew.trans (hB.out.mono B.out.size)) G.out)
  have n3_ := Aside0.mk (show b < (w2_0.setCell ⟨b, 1, none⟩ (.slice P0 t0.length q0)).heap.size by have := hB.out.size; have := Z.out; simp at *; omega)
  have n4_ := Aside0.mk (Kd.R_lower (Kd.R_far (hk_R_out hR.out Z.out) (p := ⟨b, 1, none⟩) (fun k hk => hk) (.slice P0 t0.length q0)) G.out)
  clear X X2 B Z Y hR hB
  have X := n0_
  have X2 := n1_
  have B := n2_
  have Z := n3_
  have R0 := n4_
  clear n0_ n1_ n2_ n3_ n4_
  generalize w2_0.setCell ⟨b, 1, none⟩ (.slice P0 t0.length q0) = V0 at X X2 B Z R0 ⊢
  go_wp2_with ((go_at_call 64; (with_reducible refine (kern4_Unit.calls k 0 u0 e0 _ AU0.out).mono ?_); rintro e w3_0 ⟨rfl, hB⟩; have n0_ := (hB.block _ Z.out).trans X.out; have f0 := hk_blk_frozen n0_ 3; have c0 := hk_blk_cell n0_ 3 _ rfl; have Y := Aside0.mk n0_; clear n0_; have hB := Aside0.mk hB))
  clear c0 f0
  have n0_ := Aside0.mk (blk_put Y.out 3 (.int .u64 u0) rfl)
  have n1_ := Aside0.mk (blk_far ((hB.out.block _ (blk_lt X2.out)).trans X2.out) (p := ⟨b, 3, none⟩) HN2.out (.int .u64 u0))
  have n2_ := Aside0.mk (below_set (j := 3) (v := (.int .u64 u0)) (B.out.trans (hB.out.mono B.out.size)) G.out)
  have n3_ := Aside0.mk (show b < (w3_0.setCell ⟨b, 3, none⟩ (.int .u64 u0)).heap.size by have := hB.out.size; have := Z.out; simp; omega)
  have n4_ := Aside0.mk (Kd.R_far (Kd.R_below R0.out hB.out) (p := ⟨b, 3, none⟩) (fun k hk => hk) (.int .u64 u0))
  clear X X2 B Z Y hB R0
  have X := n0_
  have X2 := n1_
  have B := n2_
  have Z := n3_
  have R0 := n4_
  clear n0_ n1_ n2_ n3_ n4_
  generalize w3_0.setCell ⟨b, 3, none⟩ (.int .u64 u0) = U0_ at X X2 B Z R0 ⊢
  rw [rounds_succ]
  go_wp2_with fail
  have c0 := hk_blk_cell X.out 2 _ rfl
  go_region_with ((go_at_call 63; (with_reducible refine (kern4_whole.calls k a 1 t1 _ A1.out).mono ?_); rintro e w2_1 ⟨v_, rfl, hR, hB⟩; obtain ⟨P1, q1, rfl⟩ := Kd.R_slice hR; have n0_ := (hB.block _ Z.out).trans X.out; clear c0; have f0 := hk_blk_frozen n0_ 2; have c0 := hk_blk_cell n0_ 2 _ rfl; have Y := Aside0.mk n0_; clear n0_; have hR := Aside0.mk hR; have hB := Aside0.mk hB))
  clear c0 f0
  have n0_ := Aside0.mk (blk_put Y.out 2 (.slice P1 t1.length q1) rfl)
  have n1_ := Aside0.mk (blk_far ((hB.out.block _ (blk_lt X2.out)).trans X2.out) (p := ⟨b, 2, none⟩) HN2.out (.slice P1 t1.length q1))
  have n2_ := Aside0.mk (below_set (j := 2) (v := (.slice P1 t1.length q1)) (B.out.drew.trans (hB.out.mono B.out.size)) G.out)
  have n3_ := Aside0.mk (show b < (w2_1.setCell ⟨b, 2, none⟩ (.slice P1 t1.length q1)).heap.size by have := hB.out.size; have := Z.out; simp at *; omega)
  have n4_ := Aside0.mk (Kd.R_lower (Kd.R_far (hk_R_out hR.out Z.out) (p := ⟨b, 2, none⟩) (fun k hk => hk) (.slice P1 t1.length q1)) G.out)
  have n5_ := Aside0.mk (Kd.R_far (Kd.R_below (Kd.R_drew R0.out) hB.out) (p := ⟨b, 2, none⟩) (fun k hk => hk) (.slice P1 t1.length q1))
  clear X X2 B Z Y hR hB R0
  have X := n0_
  have X2 := n1_
  have B := n2_
  have Z := n3_
  have R1 := n4_
  have R0 := n5_
  clear n0_ n1_ n2_ n3_ n4_ n5_
  generalize w2_1.setCell ⟨b, 2, none⟩ (.slice P1 t1.length q1) = V1 at X X2 B Z R1 R0 ⊢
  go_wp2_with ((go_at_call 64; (with_reducible refine (kern4_Unit.calls k 1 u1 e1 _ AU1.out).mono ?_); rintro e w3_1 ⟨rfl, hB⟩; have n0_ := (hB.block _ Z.out).trans X.out; have f0 := hk_blk_frozen n0_ 4; have c0 := hk_blk_cell n0_ 4 _ rfl; have Y := Aside0.mk n0_; clear n0_; have hB := Aside0.mk hB))
  clear c0 f0
  have n0_ := Aside0.mk (blk_put Y.out 4 (.int .u64 u1) rfl)
  have n1_ := Aside0.mk (blk_far ((hB.out.block _ (blk_lt X2.out)).trans X2.out) (p := ⟨b, 4, none⟩) HN2.out (.int .u64 u1))
  have n2_ := Aside0.mk (below_set (j := 4) (v := (.int .u64 u1)) (B.out.trans (hB.out.mono B.out.size)) G.out)
  have n3_ := Aside0.mk (show b < (w3_1.setCell ⟨b, 4, none⟩ (.int .u64 u1)).heap.size by have := hB.out.size; have := Z.out; simp; omega)
  have n4_ := Aside0.mk (Kd.R_far (Kd.R_below R0.out hB.out) (p := ⟨b, 4, none⟩) (fun k hk => hk) (.int .u64 u1))
  have n5_ := Aside0.mk (Kd.R_far (Kd.R_below R1.out hB.out) (p := ⟨b, 4, none⟩) (fun k hk => hk) (.int .u64 u1))
  clear X X2 B Z Y hB R0 R1
  have X := n0_
  have X2 := n1_
  have B := n2_
  have Z := n3_
  have R0 := n4_
  have R1 := n5_
  clear n0_ n1_ n2_ n3_ n4_ n5_
  generalize w3_1.setCell ⟨b, 4, none⟩ (.int .u64 u1) = U1_ at X X2 B Z R0 R1 ⊢
  rw [rounds_succ]
  go_wp2_with ((go_at_call 65; (with_reducible refine (twid_Share.calls k a s es _ AS.out).mono ?_); rintro e w5 ⟨rfl, hB⟩; have n0_ := (hB.block _ Z.out).trans X.out; have f0 := hk_blk_frozen n0_ 5; have c0 := hk_blk_cell n0_ 5 _ rfl; have Y := Aside0.mk n0_; clear n0_; have hB := Aside0.mk hB))
  clear c0 f0
  have n0_ := Aside0.mk (blk_put Y.out 5 (.int .u64 s) rfl)
  have n1_ := Aside0.mk (blk_far ((hB.out.block _ (blk_lt X2.out)).trans X2.out) (p := ⟨b, 5, none⟩) HN2.out (.int .u64 s))
  have n2_ := Aside0.mk (below_set (j := 5) (v := (.int .u64 s)) (B.out.trans (hB.out.mono B.out.size)) G.out)
  have n4_ := Aside0.mk (Kd.R_far (Kd.R_below R0.out hB.out) (p := ⟨b, 5, none⟩) (fun k hk => hk) (.int .u64 s))
  have n5_ := Aside0.mk (Kd.R_far (Kd.R_below R1.out hB.out) (p := ⟨b, 5, none⟩) (fun k hk => hk) (.int .u64 s))
  clear X X2 B Z Y hB R0 R1
  generalize w5.setCell ⟨b, 5, none⟩ (.int .u64 s) = W9 at n0_ n1_ n2_ n4_ n5_ ⊢
  go_ret
  exact ⟨b, b2, _, _, _, _, _, rfl, G.out, by rw [HB2.out]; exact Nat.le_refl _, n2_.out, n0_.out, n1_.out, n4_.out, n5_.out⟩
theorem hk_New4.calls (k : Nat) (a : Nat) (k0 k1 t0 t1 : List Int) (ke0 ke1 u0 u1 e0 e1 s es : Int) (w : World) (ha : a ≤ 20) (K0 : twid_Table.f k a 0 = some (k0, ke0)) (K1 : twid_Table.f k a 1 = some (k1, ke1)) (H0 : kern4_whole.f k a 0 = some t0) (H1 : kern4_whole.f k a 1 = some t1) (U0 : kern4_Unit.f k 0 = some (u0, e0)) (U1 : kern4_Unit.f k 1 = some (u1, e1)) (HS : twid_Share.f k a = some (s, es)) :
    Calls Tryd.prog 58 #[.int .i64 (a : Int)] w fun e w' => ∃ b, e = .returned (.pointer (some ⟨b, 0, none⟩)) ∧ Below w.heap.size w w' ∧ hk_K4 a t0 t1 u0 u1 s w.heap.size w'.heap.size b w' := by
  refine (kern4_New.calls k a k0 k1 t0 t1 ke0 ke1 u0 u1 e0 e1 s es w (decide_eq_false (by omega)) (decide_eq_false (by omega)) K0 K1 H0 H1 U0 U1 HS).mono ?_
  rintro e w' ⟨b, b2, v0, v1, x0, x1, x2, rfl, hb, hb2, hB, hX, hX2, hR0, hR1⟩
  exact ⟨b, rfl, hB, ⟨hb, blk_lt hX⟩, b2, v0, v1, x0, x1, x2, ⟨hb2, blk_lt hX2⟩, hX, hX2, Kd.R_mono (Kd.R_bound hR0) (fun j hj => hj.2.2.1), Kd.R_mono (Kd.R_bound hR1) (fun j hj => hj.2.2.1)⟩
set_option maxHeartbeats 800000 in
set_option maxRecDepth 100000 in
theorem kern4_New.none (a : Int) (w : World) (h : a < 0 ∨ 20 < a) : Calls Tryd.prog 58 #[.int .i64 a] w fun e w' => e = .returned (.pointer none) ∧ Drawn0 w w' := by
  have H := Aside0.mk h
  clear h
  go_enter Tryd.func58, Tryd.ntmps58
  go_wp2_with (go_at_call 62; (with_reducible refine (kern2_New.none a _ H.out).mono ?_); rintro e w1 ⟨rfl, hb1⟩; have hb1 := Aside0.mk hb1)
  go_ret
  exact ⟨rfl, hb1.out⟩
/-- A kernel's tables. -/
def hk_tabs4 (n k : Nat) (t0 t1 : List Int) (u0 u1 s : Int) : Prop := ∃ (k0 k1 : List Int) (ke0 ke1 e0 e1 es : Int), twid_Table.f n (k : Int) 0 = some (k0, ke0) ∧ twid_Table.f n (k : Int) 1 = some (k1, ke1) ∧ kern4_whole.f n (k : Int) 0 = some t0 ∧ kern4_whole.f n (k : Int) 1 = some t1 ∧ kern4_Unit.f n 0 = some (u0, e0) ∧ kern4_Unit.f n 1 = some (u1, e1) ∧ twid_Share.f n (k : Int) = some (s, es)
theorem hk_New4.at (n a : Nat) (t0 t1 : List Int) (u0 u1 s : Int) (w : World) (ha : a ≤ 20) (h : hk_tabs4 n a t0 t1 u0 u1 s) :
    Calls Tryd.prog 58 #[.int .i64 (a : Int)] w fun e w' => ∃ b, e = .returned (.pointer (some ⟨b, 0, none⟩)) ∧ Below w.heap.size w w' ∧ hk_K4 a t0 t1 u0 u1 s w.heap.size w'.heap.size b w' := by
  obtain ⟨k0, k1, ke0, ke1, e0, e1, es, h1, h2, h3, h4, h5, h6, h7⟩ := h
  exact hk_New4.calls n a k0 k1 t0 t1 ke0 ke1 u0 u1 e0 e1 s es w ha h1 h2 h3 h4 h5 h6 h7

/-! ### slices_Clone_uint64_uint64: function 59 (by hand) -/
theorem hk_nilEq {P : Program} (w : World) (t e : TypeId) (a : Option Addr) (l c : Nat) (h : P.underlying t = some (.slice e)) : (binOp .eql t (.slice a l c) (.slice none 0 0)).run P w = .ok (.bool a.isNone) w := by
  obtain ⟨m, hm⟩ : ∃ m : Nat, m = 9999 := ⟨_, rfl⟩
  have key : (Op.equalIn (m + 1) t (.slice a l c) (.slice none 0 0)).run P w = .ok a.isNone w := by cases a <;> simp [Op.equalIn, run_underlying h]
  rw [hm] at key
  simp only [binOp]
  have k2 : (Op.equal t (.slice a l c) (.slice none 0 0)).run P w = .ok a.isNone w := key
  simp [k2]
def slices_Clone_uint64_uint64.f (k : Nat) (l : List Int) : Option (List Int) := if l.length ≤ 1048576 then some l else none
theorem slices_Clone_uint64_uint64.mono : ∀ a0 k, LeO (slices_Clone_uint64_uint64.f k a0) (slices_Clone_uint64_uint64.f (k + 1) a0) := fun _ _ => LeO.refl _
set_option maxHeartbeats 800000 in
set_option maxRecDepth 100000 in
theorem hk_clone (A0 : Option Addr) (c0 : Nat) (l0 : List Int) (w : World) (hr0 : Kd.C (Kd.int .u64) w A0 l0.length l0) (hc0 : l0.length ≤ c0) (hn : l0.length ≤ 1048576) :
    Calls Tryd.prog 59 #[.slice A0 l0.length c0] w fun e w' => ∃ v0_ : Value, e = .returned (v0_) ∧ Kd.R (Kd.int .u64) 23 w' w.heap.size (fun _ => True) v0_ l0 ∧ Below w.heap.size w w' := by
  have HR0 := Aside0.mk hr0
  have HN := Aside0.mk hn
  have HB := Aside0.mk (Below.refl w.heap.size w)
  have hE : ∀ W, (binOp .eql 22 (.slice A0 l0.length c0) (.slice none 0 0)).run Tryd.prog W = .ok (.bool A0.isNone) W := fun W => hk_nilEq W 22 23 A0 l0.length c0 Tryd.underlying22
  cases A0 with
  | none =>
    have h0 : l0 = [] := by
      cases l0 with
      | nil => rfl
      | cons x t =>
        obtain ⟨ad, h1, _⟩ := Kd.at_int hr0 0 (by omega) (by simp only [List.length_cons]; omega)
        cases h1
    subst h0
    clear hE hr0 hc0 hn HR0 HN
    have hE : ∀ W, (binOp .eql 22 (.slice none 0 c0) (.slice none 0 0)).run Tryd.prog W = .ok (.bool true) W := fun W => hk_nilEq W 22 23 none 0 c0 Tryd.underlying22
    show Calls Tryd.prog 59 #[.slice none 0 c0] w _
    go_enter Tryd.func59, Tryd.ntmps59
    go_wp2
    go_ret
    exact ⟨_, rfl, Kd.R_nil _ _ _ _ _, by first | exact Below.refl _ _ | exact HB.out⟩
  | some ad =>
    have hI : (some ad).isNone = false := rfl
    rw [hI] at hE
    clear hr0 hc0 hn hI
    go_enter Tryd.func59, Tryd.ntmps59
    go_wp2_with (first | ((with_reducible refine gate_dst (N := 5) rfl ?_); refine Kd.R_lit (Kd.int .u64) w.heap.size 23 ?hg (N := 5) ?hd (xs := ([] : List Int)) (inner := []) (ok := fun _ => True) (okp := fun _ => True) ?hr ?hp (fun _ hk => hk) trivial HB.out HB.out.size (by simp) ?_; (case hd => rfl); (case hg => rfl); (case hr => first | (go_simp; done) | (go_simp; rfl)); (case hp => exact (Reps.none _ _)); intro vq w2 ho2 hb2 hg_ hnew_; clear hg_ hnew_; have ho2 := Aside0.mk ho2; have hb2 := Aside0.mk hb2) | ((with_reducible refine gate_builtin (b := .append) (xs := #[.tmp 5, .tmp 6]) rfl ?_); at_builtin; refine Kd.R_append_rows (Kd.int .u64) (w0 := w) w.heap.size rfl (.tmp 5) (.tmp 6) 22 23 (.int .u64 0) 8 rfl Tryd.underlying22 info23 rfl (by decide) (by omega) vq [] l0 _ _ _ (fun _ => True) (fun _ => False) rfl rfl ho2.out (Kd.C_below HR0.out hb2.out) (fun _ _ h => h) (fun _ h => h.elim) (fun _ _ => trivial) hb2.out hb2.out.size ?aL ?_; (case aL => have := HN.out; simp only [List.length_nil]; omega); intro v3 w3 ho3 hb3 hg hat; rw [List.nil_append] at ho3; have ho3 := Aside0.mk ho3; have hb3 := Aside0.mk hb3; clear hg hat))
    go_ret
    exact ⟨_, rfl, ho3.out, hb3.out⟩
theorem slices_Clone_uint64_uint64.calls (k : Nat) (A0 : Option Addr) (c0 : Nat) (l0 : List Int) (r : List Int) (w : World) (hr0 : Kd.C (Kd.int .u64) w A0 l0.length l0) (hc0 : l0.length ≤ c0) (h : slices_Clone_uint64_uint64.f k l0 = some r) :
    Calls Tryd.prog 59 #[.slice A0 l0.length c0] w fun e w' => ∃ v0_ : Value, e = .returned (v0_) ∧ Kd.R (Kd.int .u64) 23 w' w.heap.size (fun _ => True) v0_ r ∧ Below w.heap.size w w' := by
  unfold slices_Clone_uint64_uint64.f at h
  by_cases c : l0.length ≤ 1048576
  · rw [if_pos c] at h
    obtain rfl := Option.some.inj h
    exact hk_clone A0 c0 l0 w hr0 hc0 c
  · rw [if_neg c] at h; cases h

/-! ### conv_pair: function 53 (by hand) -/
set_option maxHeartbeats 8000000 in
set_option maxRecDepth 100000 in
theorem conv_pair.calls (n k : Nat) (hk : k ≤ 20) (A0 : Option Addr) (c0 : Nat) (l0 : List Int) (A1 : Option Addr) (c1 : Nat) (l1 : List Int) (t0 t1 : List Int) (u0 u1 s : Int) (r0 r1 : List Int) (w : World) (hr0 : Kd.C (Kd.int .u64) w A0 l0.length l0) (hc0 : l0.length ≤ c0) (hr1 : Kd.C (Kd.int .u64) w A1 l1.length l1) (hc1 : l1.length ≤ c1)
    (hn0 : l0.length ≤ 1048576) (hn1 : l1.length ≤ 1048576) (hT : hk_tabs4 n k t0 t1 u0 u1 s) (h0 : hk_run4 n k t0 t1 u0 u1 s 0 false l0 r0) (h1 : hk_run4 n k t0 t1 u0 u1 s 0 false l1 r1) :
    Calls Tryd.prog 53 #[.slice A0 l0.length c0, .slice A1 l1.length c1, .int .i64 (k : Int)] w fun e w' => ∃ (w2 : World) (b : Nat) (vs vt : Value), e = .returned (.tuple #[.pointer (some ⟨b, 0, none⟩), vs, vt]) ∧ Below w.heap.size w w2 ∧ hk_K4 k t0 t1 u0 u1 s w.heap.size w2.heap.size b w2 ∧ Below w2.heap.size w2 w' ∧
      Kd.R (Kd.int .u64) 23 w' w2.heap.size (fun _ => True) vs r0 ∧ Kd.R (Kd.int .u64) 23 w' w2.heap.size (fun _ => True) vt r1 ∧ (∀ j, vs.ownBlock = some j → ¬ vt.ownBlock = some j) := by
  have HR0 := Aside0.mk hr0
  have HC0 := Aside0.mk hc0
  have HR1 := Aside0.mk hr1
  have HC1 := Aside0.mk hc1
  have HN0 := Aside0.mk hn0
  have HN1 := Aside0.mk hn1
  have HK := Aside0.mk hk
  have HTB := Aside0.mk hT
  have RUN0 := Aside0.mk h0
  have RUN1 := Aside0.mk h1
  clear hr0 hc0 hr1 hc1 hn0 hn1 hk hT h0 h1
  go_enter Tryd.func53, Tryd.ntmps53
  go_wp2_with (first | (go_at_call 58; (with_reducible refine (hk_New4.at n k t0 t1 u0 u1 s _ HK.out HTB.out).mono ?_); rintro e w2 ⟨b, rfl, hb2_, hk2⟩; have HB := Aside0.mk hb2_; have K4 := Aside0.mk hk2; have H2 := Aside0.mk (Below.refl w2.heap.size w2); have HRL0 := Aside0.mk (Kd.C_below HR0.out HB.out); have HRL1 := Aside0.mk (Kd.C_below HR1.out HB.out); clear hb2_ hk2 HR0 HR1))
  go_wp2_with (first | (go_at_call 59; (with_reducible refine (hk_clone A0 c0 l0 _ (Kd.C_below HRL0.out H2.out) HC0.out HN0.out).mono ?_); rintro e w3 ⟨vs, rfl, hR_, hB_⟩; clear HRL0; have Rs := Aside0.mk (Kd.R_lower hR_ H2.out.size); have n1_ := Aside0.mk (H2.out.trans (hB_.mono H2.out.size)); clear H2; have H2 := n1_; clear n1_ hR_ hB_) | (go_at_call 59; (with_reducible refine (hk_clone A1 c1 l1 _ (Kd.C_below HRL1.out H2.out) HC1.out HN1.out).mono ?_); rintro e w4 ⟨vt, rfl, hR_, hB_⟩; have AP := Aside0.mk (show ∀ j, vs.ownBlock = some j → ¬ vt.ownBlock = some j from fun j h1 h2 => by (have a1 := Kd.R_lt Rs.out j h1); (have a2 := ((Kd.R_bound hR_).1 j h2).2.1); omega); have Rt := Aside0.mk (Kd.R_lower hR_ H2.out.size); have r_ := Aside0.mk (Kd.R_below Rs.out hB_); clear Rs; have Rs := r_; clear r_; have n1_ := Aside0.mk (H2.out.trans (hB_.mono H2.out.size)); clear H2; have H2 := n1_; clear n1_ hR_ hB_) | (go_at_call 55; (with_reducible refine (hk_Run4.run n k HK.out vs l0 r0 t0 t1 u0 u1 s 0 _ b w2 _ H2.out K4.out Rs.out RUN0.out).mono ?_); rintro e w5 ⟨rfl, hR_, hB_, hK_⟩; clear RUN0; have r_ := Aside0.mk (Kd.R_mono (Kd.R_kept (Kd.R_flat (ok' := fun j => vt.ownBlock = some j) (fun h => h) Rt.out (fun q hq _ => hq)) hK_ (fun j hj hs => AP.out j hs hj)) (fun _ _ => trivial)); clear Rt; have Rt := r_; clear r_ Rs; have Rs := Aside0.mk hR_; clear H2; have H2 := Aside0.mk hB_; clear hR_ hB_ hK_) | (go_at_call 55; (with_reducible refine (hk_Run4.run n k HK.out vt l1 r1 t0 t1 u0 u1 s 0 _ b w2 _ H2.out K4.out Rt.out RUN1.out).mono ?_); rintro e w6 ⟨rfl, hR_, hB_, hK_⟩; have r_ := Aside0.mk (Kd.R_mono (Kd.R_kept (Kd.R_flat (ok' := fun j => vs.ownBlock = some j) (fun h => h) Rs.out (fun q hq _ => hq)) hK_ (fun j hj hs => AP.out j hj hs)) (fun _ _ => trivial)); clear Rs; have Rs := r_; clear r_ Rt; have Rt := Aside0.mk hR_; clear H2; have H2 := Aside0.mk hB_; clear hR_ hB_ hK_))
  go_ret3
  exact ⟨w2, b, vs, vt, rfl, HB.out, K4.out, H2.out, Rs.out, Rt.out, AP.out⟩

/-! ### conv_times: function 54 -/
def conv_times.l0 : Nat → List Int → List Int → List Int → Int → Int → Option (List Int)
  | 0, _, _, _, _, _ => none
  | k + 1, x0, x1, x5, x11, x12 => if x12 < x11 then (if 0 ≤ x12 then (if x12 < (x0.length : Int) then (if x12 < (x1.length : Int) then ((gold_Mul.f (rd x0 x12) (rd x1 x12)).bind fun t202 => (if x12 < (x5.length : Int) then (conv_times.l0 k x0 x1 (x5.set (x12 : Int).toNat t202) x11 (wrap64 (x12 + 1))) else (none))) else (none)) else (none)) else (none)) else (some x5)
def conv_times.f (k : Nat) (l0 : List Int) (l1 : List Int) : Option (List Int) := if 0 ≤ (l0.length : Int) then (if ((l0.length : Int) : Int).toNat ≤ 35184372088832 then ((some (List.replicate ((l0.length : Int) : Int).toNat 0 : List Int)).bind fun y197 => (conv_times.l0 k l0 l1 y197 (y197.length : Int) 0)) else (none)) else (none)
theorem conv_times.mono_l : ∀ k, (∀ y0 y1 y2 y3 y4, LeO (conv_times.l0 k y0 y1 y2 y3 y4) (conv_times.l0 (k + 1) y0 y1 y2 y3 y4))
  | 0 => fun _ _ _ _ _ r h => by simp [conv_times.l0] at h
  | k + 1 => by
    have ih0 := conv_times.mono_l k
    · intro y0 y1 y2 y3 y4
      unfold conv_times.l0
      repeat' first
      | (with_reducible exact ih0 _ _ _ _ _)
      | (with_reducible exact LeO.refl _)
      | (with_reducible exact LeO.none _)
      | (with_reducible refine LeO.ite ?_ ?_)
      | (with_reducible refine LeO.bind ?_ (fun _ => ?_))
      | exact ih0 _ _ _ _ _
      | exact LeO.none _
      | refine LeO.ite ?_ ?_
      | refine LeO.bind ?_ (fun _ => ?_)
theorem conv_times.mono : ∀ a0 a1 k, LeO (conv_times.f k a0 a1) (conv_times.f (k + 1) a0 a1) := by
  intro a0 a1 k
  have ih0 := conv_times.mono_l k
  unfold conv_times.f
  repeat' first
      | (with_reducible exact ih0 _ _ _ _ _)
      | (with_reducible exact LeO.refl _)
      | (with_reducible exact LeO.none _)
      | (with_reducible refine LeO.ite ?_ ?_)
      | (with_reducible refine LeO.bind ?_ (fun _ => ?_))
      | exact ih0 _ _ _ _ _
      | exact LeO.none _
      | refine LeO.ite ?_ ?_
      | refine LeO.bind ?_ (fun _ => ?_)
def conv_times.T5 : Bool × List (List Nat × List Nat) := (true, [([], []), ([], []), ([], []), ([], []), ([2, 3], [2, 3]), ([4], [4]), ([], []), ([], []), ([6, 7], [6, 7]), ([8], [8]), ([5, 9], [5, 9]), ([0, 1, 0, 1, 2, 3, 4, 5, 6, 7, 8, 9, 10], [0, 1]), ([11, 10, 10, 0, 1, 2, 3, 4, 5, 6, 7, 8, 9, 10], [10, 11])])
def conv_times.B5 : List Nat := [0, 0, 0, 0, 12, 28, 0, 0, 192, 448, 1020, 2047, 4095]
theorem conv_times.tab5 : rtab .any (opsOf Tryd.f54 5) = conv_times.T5 := by kernel_rfl
theorem conv_times.bits5 : waitsOk conv_times.T5.2 conv_times.B5 = true := by kernel_rfl
set_option maxHeartbeats 8000000 in
set_option maxRecDepth 100000 in
theorem conv_times.calls (k : Nat) (A0 : Option Addr) (c0 : Nat) (l0 : List Int) (A1 : Option Addr) (c1 : Nat) (l1 : List Int) (r : List Int) (w : World) (hr0 : Kd.C (Kd.int .u64) w A0 l0.length l0) (hc0 : l0.length ≤ c0) (hr1 : Kd.C (Kd.int .u64) w A1 l1.length l1) (hc1 : l1.length ≤ c1) (h : conv_times.f k l0 l1 = some r) :
    Calls Tryd.prog 54 #[.slice A0 l0.length c0, .slice A1 l1.length c1] w fun e w' => ∃ v0_ : Value, e = .returned (v0_) ∧ Kd.R (Kd.int .u64) 23 w' w.heap.size (fun _ => True) v0_ r ∧ Below w.heap.size w w' := by
  have HR0 := Aside0.mk hr0
  have HC0 := Aside0.mk hc0
  clear hr0 hc0
  have HR1 := Aside0.mk hr1
  have HC1 := Aside0.mk hc1
  clear hr1 hc1
  have HB := Aside0.mk (Below.refl w.heap.size w)
  have H : (if 0 ≤ (l0.length : Int) then (if ((l0.length : Int) : Int).toNat ≤ 35184372088832 then ((some (List.replicate ((l0.length : Int) : Int).toNat 0 : List Int)).bind fun y197 => (conv_times.l0 k l0 l1 y197 (y197.length : Int) 0)) else (none)) else (none)) = some r := h
  clear h
  by_cases c3 : 0 ≤ (l0.length : Int)
  · rw [if_pos c3] at H
    have c3b0 := eq_true c3
    have LTc3 := Aside0.mk (show (((l0.take (0 : Int).toNat).length : Int) = max 0 0) by rw [List.length_take]; omega)
    (try (have LDc3 := Aside0.mk (show ∀ lo_ : Nat, (((l0.take (0 : Int).toNat).drop lo_).length : Int) = (((0 : Int).toNat - lo_ : Nat) : Int) from fun lo_ => by rw [List.length_drop, List.length_take]; omega)))
    have c3b1 : decide (0 ≤ (l0.length : Int)) = true := decide_eq_true c3
    clear c3
    by_cases c4 : ((l0.length : Int) : Int).toNat ≤ 35184372088832
    · rw [if_pos c4] at H
      have c4b0 := eq_true c4
      have c4b1 : decide (((l0.length : Int) : Int).toNat ≤ 35184372088832) = true := decide_eq_true c4
      clear c4
      obtain ⟨y197, hy197⟩ : ∃ y_ : List Int, y_ = (List.replicate ((l0.length : Int) : Int).toNat 0) := ⟨_, rfl⟩
      replace H : (conv_times.l0 k l0 l1 y197 (y197.length : Int) 0) = some r := by first | (rw [hy197]; with_reducible exact H) | (have H2_ := (Option.bind_some _ _).symm.trans H; rw [hy197]; with_reducible exact H2_) | (have H2_ := (Option.bind_some _ _).symm.trans H; with_reducible exact H2_) | with_reducible exact H | (rw [hy197]; exact H) | exact H
      have Ny197 := Aside0.mk hy197
      clear hy197
      have H' := Aside0.mk H
      clear H
      go_enter Tryd.func54, Tryd.ntmps54
      go_wp2_with (first | ((with_reducible refine gate_dst (N := 9) rfl ?_); refine Kd.R_make (Kd.int .u64) _ 23 rfl (N := 9) rfl 22 _ _ rfl (l0.length : Int) rfl rfl Tryd.underlying22 (.int .u64 0) 8 info23 rfl (by decide) (by omega) 0 (ok := fun _ => True) (okp := fun _ => True) rfl (fun _ hk => hk) trivial (of_decide_eq_true (by first | (with_reducible assumption) | assumption)) (Nat.le_trans (Nat.mul_le_mul_right _ (of_decide_eq_true (by first | (with_reducible assumption) | assumption) : (l0.length : Int).toNat ≤ 35184372088832)) (by omega)) (Below.refl _ _) (Nat.le_refl _) ?_; intro v198 w5 ho6 hb hg_ hnew_; clear hg_ hnew_; (first | rw [← Ny197.out] at ho6 | (simp only [Int.reduceToNat] at ho6; rw [← Ny197.out] at ho6)); have n0_ := Aside0.mk (Kd.R_lower ho6 (below_size (by repeat (first | (with_reducible first | exact HB.out | apply below_alloc | apply pw_below_drewN | apply below_drew1) | exact HB.out)))); have n1_ := Aside0.mk (below_step (by repeat (first | (with_reducible first | exact HB.out | apply below_alloc | apply pw_below_drewN | apply below_drew1) | exact HB.out)) hb); clear HB; have HO199 := n0_; have HB := n1_; clear n0_ n1_; clear hb ho6; obtain ⟨Ao7, co7, eo7⟩ := Kd.R_slice HO199.out; subst eo7))
      go_loopg [12] k (fun kq v12 w' => ∃ (x5_1 : List Int) (x12_1 : Int), v12 = .int .i64 x12_1 ∧ Aside0 (conv_times.l0 kq l0 l1 x5_1 (y197.length : Int) x12_1 = some r) ∧ Aside0 (kq ≤ k) ∧ Aside0 (Kd.R (Kd.int .u64) 23 w' w.heap.size (fun _ => True) (.slice Ao7 y197.length co7) x5_1) ∧ Aside0 (Below w.heap.size w w'))
      case atStart => exact ⟨(y197), (0), (by first | rfl | (simp; done) | (simp [*]; done)), H', ⟨Nat.le_refl _⟩, ⟨by (with_reducible repeat (first | apply Kd.R_alloc | apply Kd.R_drewN | apply Kd.R_drew)); exact HO199.out⟩, ⟨by repeat (first | (with_reducible first | exact HB.out | apply below_alloc | apply pw_below_drewN | apply below_drew1) | exact HB.out)⟩⟩
      case round =>
        clear H'
        try clear c1
        try clear p2
        try clear c3
        try clear c3b0
        try clear c3b1
        try clear c4
        try clear c4b0
        try clear c4b1
        try clear c5
        obtain ⟨x5_1, x12_1, rfl, HA, HK1, HO_5, HB⟩ := hrel
        have hl5_1 := (Kd.R_reads' HO_5.out).1
        rw [hl5_1] at HO_5
        (try simp only [hl5_1])
        cases gk with
        | zero => exact absurd HA.out (by simp [conv_times.l0])
        | succ k1 =>
          have H := HA.out
          clear HA
          simp only [conv_times.l0] at H
          by_cases c8 : x12_1 < (y197.length : Int)
          · rw [if_pos c8] at H
            have c8b0 : decide (x12_1 < (y197.length : Int)) = true := decide_eq_true c8
            (try (have c8b0_0 := c8b0; rw [LTc3.out] at c8b0_0))
            (try (have c8b0_0p := eq_true (of_decide_eq_true c8b0_0)))
            (try (have c8b0_1 := c8b0; rw [LDc3.out] at c8b0_1))
            (try (have c8b0_1p := eq_true (of_decide_eq_true c8b0_1)))
            (try (have c8b0_2 := c8b0; simp only [hl5_1] at c8b0_2))
            clear c8
            by_cases c9 : 0 ≤ x12_1
            · rw [if_pos c9] at H
              have c9b0 : decide (0 ≤ x12_1) = true := decide_eq_true c9
              clear c9
              by_cases c10 : x12_1 < (l0.length : Int)
              · rw [if_pos c10] at H
                have c10b0 : decide (x12_1 < (l0.length : Int)) = true := decide_eq_true c10
                (try (have c10b0_0 := c10b0; rw [LTc3.out] at c10b0_0))
                (try (have c10b0_0p := eq_true (of_decide_eq_true c10b0_0)))
                (try (have c10b0_1 := c10b0; rw [LDc3.out] at c10b0_1))
                (try (have c10b0_1p := eq_true (of_decide_eq_true c10b0_1)))
                (try (have c10b0_2 := c10b0; simp only [hl5_1] at c10b0_2))
                clear c10
                by_cases c11 : x12_1 < (l1.length : Int)
                · rw [if_pos c11] at H
                  have c11b0 : decide (x12_1 < (l1.length : Int)) = true := decide_eq_true c11
                  (try (have c11b0_0 := c11b0; rw [LTc3.out] at c11b0_0))
                  (try (have c11b0_0p := eq_true (of_decide_eq_true c11b0_0)))
                  (try (have c11b0_1 := c11b0; rw [LDc3.out] at c11b0_1))
                  (try (have c11b0_1p := eq_true (of_decide_eq_true c11b0_1)))
                  (try (have c11b0_2 := c11b0; simp only [hl5_1] at c11b0_2))
                  clear c11
                  replace H := Option.bind_eq_some_iff.mp H
                  obtain ⟨t202, A120, H⟩ := H
                  replace H : (if x12_1 < (x5_1.length : Int) then (conv_times.l0 k1 l0 l1 (x5_1.set (x12_1 : Int).toNat t202) (y197.length : Int) (wrap64 (x12_1 + 1))) else (none)) = some r := H
                  have A12 := Aside0.mk A120
                  clear A120
                  by_cases c13 : x12_1 < (x5_1.length : Int)
                  · rw [if_pos c13] at H
                    have c13b0 : decide (x12_1 < (x5_1.length : Int)) = true := decide_eq_true c13
                    (try (have c13b0_0 := c13b0; rw [LTc3.out] at c13b0_0))
                    (try (have c13b0_0p := eq_true (of_decide_eq_true c13b0_0)))
                    (try (have c13b0_1 := c13b0; rw [LDc3.out] at c13b0_1))
                    (try (have c13b0_1p := eq_true (of_decide_eq_true c13b0_1)))
                    (try (have c13b0_2 := c13b0; simp only [hl5_1] at c13b0_2))
                    clear c13
                    obtain ⟨y203, hy203⟩ : ∃ y_ : List Int, y_ = (x5_1.set (x12_1 : Int).toNat t202) := ⟨_, rfl⟩
                    replace H : (conv_times.l0 k1 l0 l1 y203 (y197.length : Int) (wrap64 (x12_1 + 1))) = some r := by first | (rw [hy203]; with_reducible exact H) | (have H2_ := (Option.bind_some _ _).symm.trans H; rw [hy203]; with_reducible exact H2_) | (have H2_ := (Option.bind_some _ _).symm.trans H; with_reducible exact H2_) | with_reducible exact H | (rw [hy203]; exact H) | exact H
                    have Ny203 := Aside0.mk hy203
                    clear hy203
                    have H' := Aside0.mk H
                    clear H
                    try go_wp2
                    have n0_ := Aside0.mk (Kd.R_drew HO_5.out)
                    have n1_ := Aside0.mk (below_drew1 HB.out)
                    clear HO_5
                    clear HB
                    have HO_5 := n0_
                    have HB := n1_
                    clear n0_ n1_
                    have p200 : 0 ≤ (x12_1 : Int) := of_decide_eq_true (by first | (with_reducible assumption) | assumption)
                    have q200 : x12_1 < (l0.length : Int) := of_decide_eq_true (by first | (with_reducible assumption) | assumption)
                    obtain ⟨ad200, e200, hx200_0⟩ := Kd.at_int HR0.out x12_1 p200 q200
                    have hw200_0 := hx200_0
                    cases e200
                    replace hx200_0 := (HB.out.cell (World.block_lt_of_cell? w _ hx200_0)).trans hx200_0
                    replace p200 := eq_true p200
                    replace q200 := eq_true q200
                    have p201 : 0 ≤ (x12_1 : Int) := of_decide_eq_true (by first | (with_reducible assumption) | assumption)
                    have q201 : x12_1 < (l1.length : Int) := of_decide_eq_true (by first | (with_reducible assumption) | assumption)
                    obtain ⟨ad201, e201, hx201_0⟩ := Kd.at_int HR1.out x12_1 p201 q201
                    have hw201_0 := hx201_0
                    cases e201
                    replace hx201_0 := (HB.out.cell (World.block_lt_of_cell? w _ hx201_0)).trans hx201_0
                    replace p201 := eq_true p201
                    replace q201 := eq_true q201
                    refine start_ (n := 13) (S := fun w' => w'.cell? (ad200.add (x12_1).toNat) = some (.int .u64 (rd l0 x12_1)) ∧ w'.cell? (ad201.add (x12_1).toNat) = some (.int .u64 (rd l1 x12_1))) (ds := [12]) #[false, false, false, false, false, false, false, false, false, false, false, false, false] (by kernel_rfl) rfl rfl ⟨((HB.out.cell (World.block_lt_of_cell? w _ hw200_0)).trans hw200_0), ((HB.out.cell (World.block_lt_of_cell? w _ hw201_0)).trans hw201_0)⟩ (fun hHeld => ?_); refine with_tabW conv_times.tab5 conv_times.bits5 (fun HT_ HW_ => ?_)
                    generalize wr.drew = w15 at HO_5 HB hx200_0 hx201_0 hHeld ⊢
                    refine pure_ (i := 0) (N := some 15) (v := ?_) (a' := ?_) #[true, false, false, false, false, false, false, false, false, false, false, false, false] rfl rfl (any_of HT_.out (by kernel_rfl)) (fun _ _ _ h => h) (Or.inl ⟨by rfl, ?_⟩) ?_ ?_
                    rotate_left
                    · intro w'
                      go_simp
                      with_reducible rfl
                    rotate_left
                    · simp only [Act.put, List.setIfInBounds_toArray, List.set_cons_zero, List.set_cons_succ, i64_w, i32_w]
                      rfl
                    refine pure_ (i := 1) (N := some 16) (v := ?_) (a' := ?_) #[true, true, false, false, false, false, false, false, false, false, false, false, false] rfl rfl (any_of HT_.out (by kernel_rfl)) (fun _ _ _ h => h) (Or.inl ⟨by rfl, ?_⟩) ?_ ?_
                    rotate_left
                    · intro w'
                      go_simp
                      with_reducible rfl
                    rotate_left
                    · simp only [Act.put, List.setIfInBounds_toArray, List.set_cons_zero, List.set_cons_succ, i64_w, i32_w]
                      rfl
                    refine pure_ (i := 2) (N := some 17) (v := ?_) (a' := ?_) #[true, true, true, false, false, false, false, false, false, false, false, false, false] rfl rfl (any_of HT_.out (by kernel_rfl)) (fun _ _ _ h => h) (Or.inl ⟨by rfl, ?_⟩) ?_ ?_
                    rotate_left
                    · intro w'
                      go_simp
                      with_reducible rfl
                    rotate_left
                    · simp only [Act.put, List.setIfInBounds_toArray, List.set_cons_zero, List.set_cons_succ, i64_w, i32_w]
                      rfl
                    refine pure_ (i := 3) (N := some 18) (v := ?_) (a' := ?_) #[true, true, true, true, false, false, false, false, false, false, false, false, false] rfl rfl (any_of HT_.out (by kernel_rfl)) (fun _ _ _ h => h) (Or.inl ⟨by rfl, ?_⟩) ?_ ?_
                    rotate_left
                    · intro w'
                      go_simp
                      with_reducible rfl
                    rotate_left
                    · simp only [Act.put, List.setIfInBounds_toArray, List.set_cons_zero, List.set_cons_succ, i64_w, i32_w]
                      rfl
                    refine pure_ (i := 4) (N := some 19) (v := ?_) (a' := ?_) #[true, true, true, true, true, false, false, false, false, false, false, false, false] rfl rfl (any_of HT_.out (by kernel_rfl)) (fun _ _ _ h => h) (Or.inl ⟨by rfl, ?_⟩) ?_ ?_
                    rotate_left
                    · intro w'
                      go_simp
                      with_reducible rfl
                    rotate_left
                    · simp only [Act.put, List.setIfInBounds_toArray, List.set_cons_zero, List.set_cons_succ, i64_w, i32_w]
                      rfl
                    refine pure_ (i := 6) (N := some 21) (v := ?_) (a' := ?_) #[true, true, true, true, true, false, true, false, false, false, false, false, false] rfl rfl (any_of HT_.out (by kernel_rfl)) (fun _ _ _ h => h) (Or.inl ⟨by rfl, ?_⟩) ?_ ?_
                    rotate_left
                    · intro w'
                      go_simp
                      with_reducible rfl
                    rotate_left
                    · simp only [Act.put, List.setIfInBounds_toArray, List.set_cons_zero, List.set_cons_succ, i64_w, i32_w]
                      rfl
                    refine pure_ (i := 7) (N := some 22) (v := ?_) (a' := ?_) #[true, true, true, true, true, false, true, true, false, false, false, false, false] rfl rfl (any_of HT_.out (by kernel_rfl)) (fun _ _ _ h => h) (Or.inl ⟨by rfl, ?_⟩) ?_ ?_
                    rotate_left
                    · intro w'
                      go_simp
                      with_reducible rfl
                    rotate_left
                    · simp only [Act.put, List.setIfInBounds_toArray, List.set_cons_zero, List.set_cons_succ, i64_w, i32_w]
                      rfl
                    refine pure_ (i := 8) (N := some 23) (v := ?_) (a' := ?_) #[true, true, true, true, true, false, true, true, true, false, false, false, false] rfl rfl (any_of HT_.out (by kernel_rfl)) (fun _ _ _ h => h) (Or.inl ⟨by rfl, ?_⟩) ?_ ?_
                    rotate_left
                    · intro w'
                      go_simp
                      with_reducible rfl
                    rotate_left
                    · simp only [Act.put, List.setIfInBounds_toArray, List.set_cons_zero, List.set_cons_succ, i64_w, i32_w]
                      rfl
                    refine take_ (i := 5) (N := some 20) (v := ?_) (a' := ?_) #[true, true, true, true, true, true, true, true, true, false, false, false, false] rfl rfl (take_ofW HT_.out HW_.out (by kernel_rfl)) (fun _ _ _ h => h) (Or.inl ⟨by rfl, ?_⟩) hHeld ?_ ?_
                    rotate_left
                    · rintro w' ⟨s0, s1⟩
                      go_simp
                      with_reducible rfl
                    rotate_left
                    · simp only [Act.put, List.setIfInBounds_toArray, List.set_cons_zero, List.set_cons_succ, i64_w, i32_w]
                      rfl
                    refine take_ (i := 9) (N := some 24) (v := ?_) (a' := ?_) #[true, true, true, true, true, true, true, true, true, true, false, false, false] rfl rfl (take_ofW HT_.out HW_.out (by kernel_rfl)) (fun _ _ _ h => h) (Or.inl ⟨by rfl, ?_⟩) hHeld ?_ ?_
                    rotate_left
                    · rintro w' ⟨s0, s1⟩
                      go_simp
                      with_reducible rfl
                    rotate_left
                    · simp only [Act.put, List.setIfInBounds_toArray, List.set_cons_zero, List.set_cons_succ, i64_w, i32_w]
                      rfl
                    refine one_ (i := 10) (N := some 25) #[true, true, true, true, true, true, true, true, true, true, true, false, false] rfl rfl (one_of HT_.out (by kernel_rfl)) (by decide) (fun K hK => ?_)
                    refine goes_ Tryd.func40 (by kernel_rfl) rfl #[.int .u64 (rd l0 x12_1), .int .u64 (rd l1 x12_1)] (by rfl) rfl rfl (by (try simp only [List.map_toArray, List.map_cons, List.map_nil]); first | done | rfl | (simp only [List.length_drop, List.length_take]; rfl)) ?_
                    with_reducible refine (gold_Mul.calls (rd l0 x12_1) (rd l1 x12_1) t202 _ A12.out).mono ?_
                    rintro e w16 ⟨rfl, hb⟩
                    refine ⟨_, rfl, ?_⟩
                    have n0_ := Aside0.mk (Kd.R_below (by (with_reducible repeat (first | apply Kd.R_alloc | apply Kd.R_drewN | apply Kd.R_drew)); exact HO_5.out) hb)
                    have n1_ := Aside0.mk (below_step (by repeat (first | (with_reducible first | exact HB.out | apply below_alloc | apply pw_below_drewN | apply below_drew1) | exact HB.out)) hb)
                    clear HO_5
                    clear HB
                    have HO_5 := n0_
                    have HB := n1_
                    clear n0_ n1_
                    (try clear hb)
                    (try clear hb2)
                    (try clear hk)
                    (try clear hi)
                    have p14 : 0 ≤ (x12_1 : Int) := of_decide_eq_true (by first | (with_reducible assumption) | assumption)
                    have q14 : (x12_1 : Int) < ((x5_1.length : Int) : Int) := of_decide_eq_true (by first | (with_reducible assumption) | assumption)
                    obtain ⟨go14, co14, eo14, gb14, gl14, cl14, HG14⟩ := Kd.R_form HO_5.out (by omega)
                    (first | cases eo14 | (injection eo14 with ea_ en_ ec_; (first | subst ea_ | (injection ea_ with ea_; subst ea_)); subst ec_; clear en_))
                    have GB14 := Aside0.mk gb14
                    have GG14 := Aside0.mk HG14
                    clear gb14 gl14 HG14
                    obtain ⟨hx14_0, hf14_0⟩ := Kd.R_celln 0 HO_5.out (x12_1 : Int) p14 q14
                    replace p14 := eq_true p14
                    replace q14 := eq_true q14
                    have HP17 := Kd.R_putn HO_5.out (x12_1 : Int) t202
                    rw [← Ny203.out] at HP17
                    have HQ17 := Aside0.mk HP17
                    clear HP17
                    refine hK.out _ _ ⟨((HB.out.cell (World.block_lt_of_cell? w _ hw200_0)).trans hw200_0), ((HB.out.cell (World.block_lt_of_cell? w _ hw201_0)).trans hw201_0)⟩ (fun hHeld => ?_)
                    clear hK K
                    refine norm_ (a' := ?_) ?_ ?_
                    rotate_left
                    · show Act.put _ (some 25) _ = _
                      simp only [Act.put, List.setIfInBounds_toArray, List.set_cons_zero, List.set_cons_succ, i64_w, i32_w]
                      rfl
                    refine pure_ (i := 11) (N := some 26) (v := ?_) (a' := ?_) #[true, true, true, true, true, true, true, true, true, true, true, true, false] rfl rfl (any_of HT_.out (by kernel_rfl)) (fun _ _ _ h => h) (Or.inl ⟨by rfl, ?_⟩) ?_ ?_
                    rotate_left
                    · intro w'
                      go_simp
                      with_reducible rfl
                    rotate_left
                    · simp only [Act.put, List.setIfInBounds_toArray, List.set_cons_zero, List.set_cons_succ, i64_w, i32_w]
                      rfl
                    refine last_ (i := 12) (N := none) #[true, true, true, true, true, true, true, true, true, true, true, true, true] rfl rfl (one_of HT_.out (by kernel_rfl)) (by decide) (fun K hK => ?_)
                    refine skip_ (w1 := ?_) (by rfl) rfl ?_ ?_
                    rotate_left
                    · go_simp
                      rfl
                    refine hK.out _ _ ?_
                    clear hK K
                    refine done_ (done_of HT_.out (by kernel_rfl)) ?_
                    try go_wp2
                    (try simp only [← hl5_1])
                    (first | go_roundg k1 | (simp only [add_plain] at *; go_roundg k1))
                    case measure => have := HK1.out; omega
                    case rel => exact ⟨(y203), (wrap64 (x12_1 + 1)), (by first | rfl | (simp; done) | (simp [*]; done)), H', ⟨by have := HK1.out; omega⟩, ⟨by (try simp only [hl5_1]); (with_reducible repeat (first | apply Kd.R_alloc | apply Kd.R_drewN | apply Kd.R_drew)); exact HQ17.out⟩, ⟨by repeat (first | (with_reducible first | exact HB.out | apply below_alloc | apply pw_below_drewN | apply below_drew1 | refine below_set ?_ GB14.out) | exact HB.out)⟩⟩
                  · rw [if_neg c13] at H
                    exact absurd H (by simp)
                · rw [if_neg c11] at H
                  exact absurd H (by simp)
              · rw [if_neg c10] at H
                exact absurd H (by simp)
            · rw [if_neg c9] at H
              exact absurd H (by simp)
          · rw [if_neg c8] at H
            have c8b0 : decide (x12_1 < (y197.length : Int)) = false := decide_eq_false c8
            (try (have c8b0_0 := c8b0; rw [LTc3.out] at c8b0_0))
            (try (have c8b0_1 := c8b0; rw [LDc3.out] at c8b0_1))
            (try (have c8b0_2 := c8b0; simp only [hl5_1] at c8b0_2))
            clear c8
            obtain rfl := Option.some.inj H
            go_wp2
            go_ret
            exact ⟨_, by first | rfl | (simp [errW_none, errW_some] <;> rfl) | (simp [*, errW_none, errW_some] <;> rfl), by (with_reducible repeat (first | apply Kd.R_alloc | apply Kd.R_drewN | apply Kd.R_drew)); exact HO_5.out, by repeat (first | (with_reducible first | exact HB.out | apply below_alloc | apply pw_below_drewN | apply below_drew1) | exact HB.out)⟩
    · rw [if_neg c4] at H
      exact absurd H (by simp)
  · rw [if_neg c3] at H
    exact absurd H (by simp)

/-! ### conv_cyclic: function 48 (by hand) -/
/-- A kernel's tables, as an answer. -/
def hk_kern (n : Nat) (k : Int) : Option (List Int × List Int × Int × Int × Int) := (twid_Table.f n k 0).bind fun _ => (twid_Table.f n k 1).bind fun _ => (kern4_whole.f n k 0).bind fun t0 => (kern4_whole.f n k 1).bind fun t1 => (kern4_Unit.f n 0).bind fun u0 => (kern4_Unit.f n 1).bind fun u1 => (twid_Share.f n k).bind fun s => some (t0, t1, u0.1, u1.1, s.1)
theorem hk_kern_tabs {n k : Nat} {q : List Int × List Int × Int × Int × Int} (h : hk_kern n (k : Int) = some q) : hk_tabs4 n k q.1 q.2.1 q.2.2.1 q.2.2.2.1 q.2.2.2.2 := by
  unfold hk_kern at h
  obtain ⟨⟨k0, ke0⟩, h1, h⟩ := Option.bind_eq_some_iff.1 h
  obtain ⟨⟨k1, ke1⟩, h2, h⟩ := Option.bind_eq_some_iff.1 h
  obtain ⟨t0, h3, h⟩ := Option.bind_eq_some_iff.1 h
  obtain ⟨t1, h4, h⟩ := Option.bind_eq_some_iff.1 h
  obtain ⟨⟨u0, e0⟩, h5, h⟩ := Option.bind_eq_some_iff.1 h
  obtain ⟨⟨u1, e1⟩, h6, h⟩ := Option.bind_eq_some_iff.1 h
  obtain ⟨⟨s, es⟩, h7, h⟩ := Option.bind_eq_some_iff.1 h
  obtain rfl := Option.some.inj h
  exact ⟨k0, k1, ke0, ke1, e0, e1, es, h1, h2, h3, h4, h5, h6, h7⟩
theorem hk_kern_mono (n : Nat) (k : Int) : LeO (hk_kern n k) (hk_kern (n + 1) k) :=
  LeO.bind (twid_Table.mono _ _ _) (fun _ => LeO.bind (twid_Table.mono _ _ _) (fun _ => LeO.bind (kern4_whole.mono _ _ _) (fun _ => LeO.bind (kern4_whole.mono _ _ _) (fun _ => LeO.bind (kern4_Unit.mono _ _) (fun _ => LeO.bind (kern4_Unit.mono _ _) (fun _ => LeO.bind (twid_Share.mono _ _) (fun _ => LeO.refl _)))))))
/-- A row's transform by a table, undivided. -/
def hk_fwd (n k : Nat) (t : List Int) (u : Int) (l : List Int) : Option (List Int) := (twid_Scale.f n l 1).bind fun sc => if sc.length = l.length ∧ l.length = 2 ^ k ∧ t.length = 2 ^ k then hk_k4r t u k sc else none
theorem hk_fwd_mono (n k : Nat) (t : List Int) (u : Int) (l : List Int) : LeO (hk_fwd n k t u l) (hk_fwd (n + 1) k t u l) := LeO.bind (twid_Scale.mono _ _ _) (fun _ => LeO.refl _)
theorem hk_fwd_run {n k : Nat} {t0 t1 : List Int} {u0 u1 s : Int} {l r : List Int} (h : hk_fwd n k t0 u0 l = some r) : hk_run4 n k t0 t1 u0 u1 s 0 false l r := by
  unfold hk_fwd at h
  obtain ⟨sc, h1, h⟩ := Option.bind_eq_some_iff.1 h
  by_cases c : sc.length = l.length ∧ l.length = 2 ^ k ∧ t0.length = 2 ^ k
  · rw [if_pos c] at h
    exact ⟨sc, r, .inl rfl, h1, c.1, c.2.1, by rw [if_pos rfl]; exact c.2.2, by rw [if_pos rfl, if_pos rfl]; exact h, .inl ⟨.inr rfl, rfl⟩⟩
  · rw [if_neg c] at h; cases h
/-- The transform back. -/
def hk_bwd (n k : Nat) (t : List Int) (u s : Int) (l : List Int) : Option (List Int) := (hk_fwd n k t u l).bind fun r => (twid_Scale.f n r s).bind fun rr => if rr.length = r.length then some rr else none
theorem hk_bwd_mono (n k : Nat) (t : List Int) (u s : Int) (l : List Int) : LeO (hk_bwd n k t u s l) (hk_bwd (n + 1) k t u s l) := LeO.bind (hk_fwd_mono _ _ _ _ _) (fun _ => LeO.bind (twid_Scale.mono _ _ _) (fun _ => LeO.refl _))
theorem hk_bwd_run {n k : Nat} {t0 t1 : List Int} {u0 u1 s : Int} {l rr : List Int} (h : hk_bwd n k t1 u1 s l = some rr) : hk_run4 n k t0 t1 u0 u1 s 1 false l rr := by
  unfold hk_bwd at h
  obtain ⟨r, h0, h⟩ := Option.bind_eq_some_iff.1 h
  obtain ⟨r2, h2, h⟩ := Option.bind_eq_some_iff.1 h
  unfold hk_fwd at h0
  obtain ⟨sc, h1, h0⟩ := Option.bind_eq_some_iff.1 h0
  by_cases d : r2.length = r.length
  · rw [if_pos d] at h
    obtain rfl := Option.some.inj h
    by_cases c : sc.length = l.length ∧ l.length = 2 ^ k ∧ t1.length = 2 ^ k
    · rw [if_pos c] at h0
      exact ⟨sc, r, .inr rfl, h1, c.1, c.2.1, by rw [if_neg (by decide)]; exact c.2.2, by rw [if_neg (by decide), if_neg (by decide)]; exact h0, .inr ⟨rfl, rfl, h2, d⟩⟩
    · rw [if_neg c] at h0; cases h0
  · rw [if_neg d] at h; cases h
def conv_cyclic.f (n : Nat) (a b : List Int) (k : Int) : Option (List Int) := if 0 ≤ k ∧ k ≤ 20 ∧ a.length = 2 ^ k.toNat ∧ b.length = 2 ^ k.toNat then (hk_kern n k).bind fun q => (hk_fwd n k.toNat q.1 q.2.2.1 a).bind fun x => (hk_fwd n k.toNat q.1 q.2.2.1 b).bind fun y => (conv_times.f n x y).bind fun o => hk_bwd n k.toNat q.2.1 q.2.2.2.1 q.2.2.2.2 o else none
theorem conv_cyclic.mono : ∀ a0 a1 a2 k, LeO (conv_cyclic.f k a0 a1 a2) (conv_cyclic.f (k + 1) a0 a1 a2) := by
  intro a0 a1 a2 k
  unfold conv_cyclic.f
  exact LeO.ite (LeO.bind (hk_kern_mono _ _) (fun q => LeO.bind (hk_fwd_mono _ _ _ _ _) (fun x => LeO.bind (hk_fwd_mono _ _ _ _ _) (fun y => LeO.bind (conv_times.mono _ _ _) (fun o => hk_bwd_mono _ _ _ _ _ _))))) (LeO.refl _)
theorem hk_times_at (k : Nat) (A0 : Option Addr) (c0 m0 : Nat) (l0 : List Int) (A1 : Option Addr) (c1 m1 : Nat) (l1 : List Int) (r : List Int) (w : World) (h0 : m0 = l0.length) (h1 : m1 = l1.length) (hr0 : Kd.C (Kd.int .u64) w A0 l0.length l0) (hc0 : l0.length ≤ c0) (hr1 : Kd.C (Kd.int .u64) w A1 l1.length l1) (hc1 : l1.length ≤ c1) (h : conv_times.f k l0 l1 = some r) :
    Calls Tryd.prog 54 #[.slice A0 m0 c0, .slice A1 m1 c1] w fun e w' => ∃ v0_ : Value, e = .returned (v0_) ∧ Kd.R (Kd.int .u64) 23 w' w.heap.size (fun _ => True) v0_ r ∧ Below w.heap.size w w' := by
  subst h0 h1
  exact conv_times.calls k A0 c0 l0 A1 c1 l1 r w hr0 hc0 hr1 hc1 h
set_option maxHeartbeats 8000000 in
set_option maxRecDepth 100000 in
theorem hk_cyc.walk (n k : Nat) (hk : k ≤ 20) (A0 : Option Addr) (c0 : Nat) (l0 : List Int) (A1 : Option Addr) (c1 : Nat) (l1 : List Int) (t0 t1 : List Int) (u0 u1 s : Int) (r0 r1 o r : List Int) (w : World) (hr0 : Kd.C (Kd.int .u64) w A0 l0.length l0) (hc0 : l0.length ≤ c0) (hr1 : Kd.C (Kd.int .u64) w A1 l1.length l1) (hc1 : l1.length ≤ c1)
    (hn0 : l0.length ≤ 1048576) (hn1 : l1.length ≤ 1048576) (hT : hk_tabs4 n k t0 t1 u0 u1 s) (h0 : hk_run4 n k t0 t1 u0 u1 s 0 false l0 r0) (h1 : hk_run4 n k t0 t1 u0 u1 s 0 false l1 r1) (ho : conv_times.f n r0 r1 = some o) (h2 : hk_run4 n k t0 t1 u0 u1 s 1 false o r) :
    Calls Tryd.prog 48 #[.slice A0 l0.length c0, .slice A1 l1.length c1, .int .i64 (k : Int)] w fun e w' => ∃ v0_ : Value, e = .returned (v0_) ∧ Kd.R (Kd.int .u64) 23 w' w.heap.size (fun _ => True) v0_ r ∧ Below w.heap.size w w' := by
  have C := Aside0.mk (conv_pair.calls n k hk A0 c0 l0 A1 c1 l1 t0 t1 u0 u1 s r0 r1 w hr0 hc0 hr1 hc1 hn0 hn1 hT h0 h1)
  have HK := Aside0.mk hk
  have HO := Aside0.mk ho
  have RUN := Aside0.mk h2
  clear hr0 hc0 hr1 hc1 hn0 hn1 hk hT h0 h1 ho h2
  go_enter Tryd.func48, Tryd.ntmps48
  go_wp2_with (first | (go_at_call 53; (with_reducible refine (C.out).mono ?_); rintro e w3 ⟨w2, b, vs, vt, rfl, hB_, hK_, hH_, hS_, hT_, hA_⟩; clear C; have HB := Aside0.mk hB_; have K4 := Aside0.mk hK_; have H2 := Aside0.mk hH_; obtain ⟨As, cs, es⟩ := Kd.R_slice hS_; subst es; obtain ⟨At, ct, et⟩ := Kd.R_slice hT_; subst et; have Rs := Aside0.mk hS_; have Rt := Aside0.mk hT_; clear hB_ hK_ hH_ hS_ hT_ hA_) | (go_at_call 54; (with_reducible refine (hk_times_at n As cs _ r0 At ct _ r1 o _ rfl rfl (Kd.R_reads' Rs.out).2.2 (Kd.R_reads' Rs.out).2.1 (Kd.R_reads' Rt.out).2.2 (Kd.R_reads' Rt.out).2.1 HO.out).mono ?_); rintro e w4 ⟨vo, rfl, hR_, hB_⟩; have Ro := Aside0.mk (Kd.R_lower hR_ H2.out.size); have n1_ := Aside0.mk (H2.out.trans (hB_.mono H2.out.size)); clear H2; have H2 := n1_; clear n1_ hR_ hB_) | (go_at_call 55; (with_reducible refine (hk_Run4.run n k HK.out vo o r t0 t1 u0 u1 s 1 _ b w2 _ H2.out K4.out Ro.out RUN.out).mono ?_); rintro e w5 ⟨rfl, hR_, hB_, _⟩; clear Ro; have Ro := Aside0.mk hR_; clear H2; have H2 := Aside0.mk hB_; clear hR_ hB_))
  go_ret
  exact ⟨vo, rfl, Kd.R_lower Ro.out HB.out.size, HB.out.trans (H2.out.mono HB.out.size)⟩
theorem conv_cyclic.calls (k : Nat) (A0 : Option Addr) (c0 : Nat) (l0 : List Int) (A1 : Option Addr) (c1 : Nat) (l1 : List Int) (a2 : Int) (r : List Int) (w : World) (hr0 : Kd.C (Kd.int .u64) w A0 l0.length l0) (hc0 : l0.length ≤ c0) (hr1 : Kd.C (Kd.int .u64) w A1 l1.length l1) (hc1 : l1.length ≤ c1) (h : conv_cyclic.f k l0 l1 a2 = some r) :
    Calls Tryd.prog 48 #[.slice A0 l0.length c0, .slice A1 l1.length c1, .int .i64 a2] w fun e w' => ∃ v0_ : Value, e = .returned (v0_) ∧ Kd.R (Kd.int .u64) 23 w' w.heap.size (fun _ => True) v0_ r ∧ Below w.heap.size w w' := by
  unfold conv_cyclic.f at h
  by_cases c : 0 ≤ a2 ∧ a2 ≤ 20 ∧ l0.length = 2 ^ a2.toNat ∧ l1.length = 2 ^ a2.toNat
  · rw [if_pos c] at h
    obtain ⟨g0, g1, g2, g3⟩ := c
    obtain ⟨kk, rfl⟩ := Int.eq_ofNat_of_zero_le g0
    rw [Int.toNat_natCast] at g2 g3 h
    obtain ⟨q, hq, h⟩ := Option.bind_eq_some_iff.1 h
    obtain ⟨x, hx, h⟩ := Option.bind_eq_some_iff.1 h
    obtain ⟨y, hy, h⟩ := Option.bind_eq_some_iff.1 h
    obtain ⟨o, ho, h⟩ := Option.bind_eq_some_iff.1 h
    have hk : kk ≤ 20 := by omega
    have hp : 2 ^ kk ≤ 1048576 := Nat.pow_le_pow_right (n := 2) (by omega) hk
    exact hk_cyc.walk k kk hk A0 c0 l0 A1 c1 l1 q.1 q.2.1 q.2.2.1 q.2.2.2.1 q.2.2.2.2 x y o r w hr0 hc0 hr1 hc1 (by omega) (by omega) (hk_kern_tabs hq) (hk_fwd_run hx) (hk_fwd_run hy) ho (hk_bwd_run h)
  · rw [if_neg c] at h; cases h

end Go.Proofs.YtnmjomcpkckihaaDoor.PChirpTwos
