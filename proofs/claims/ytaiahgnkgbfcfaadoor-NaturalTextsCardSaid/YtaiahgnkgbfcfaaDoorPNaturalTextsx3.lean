-- Written for this claim by wip/gen/mk.sh, this session's own driver over the kit's print
import Derived.Test.YtaiahgnkgbfcfaaDoorPNaturalTextsx0
import Derived.Test.YtaiahgnkgbfcfaaDoorPNaturalTextsx1
import Derived.Test.YtaiahgnkgbfcfaaDoorPNaturalTextsx2
namespace Go.Proofs.YtaiahgnkgbfcfaaDoor.PNaturalTexts
open Go.RowKit Go.Proofs.YtaiahgnkgbfcfaaDoorW.PrintWords Go.Proofs.YtaiahgnkgbfcfaaDoorW.PrintLast Go.Proofs.YtaiahgnkgbfcfaaDoorW.PrintMore
attribute [local go_sem] max2_int min2_int max_two min_two max_three min_three max_four min_four   -- for this text's walks alone
set_option linter.unusedVariables false
set_option linter.unusedSimpArgs false

/-! ### poly_Trim: function 48 -/
def poly_Trim.l0 : Nat → List Int → List Int → Int → Int → Option (List Int)
  | 0, _, _, _, _ => none
  | k + 1, x3, x10, x11, x12 => if x12 < x11 then (if 0 ≤ x12 then (if x12 < (x10.length : Int) then ((gold_Of.f (rd x10 x12)).bind fun t130 => (if x3.length < 17592186044416 then (poly_Trim.l0 k (x3 ++ [t130]) x10 x11 (wrap64 (x12 + 1))) else (none))) else (none)) else (none)) else (some x3)
def poly_Trim.f (k : Nat) (l0 : List Int) : Option (List Int) := (poly_Degree.f k l0).bind fun t127 => (if 0 ≤ (wrap64 (t127 + 1)) then (if (wrap64 (t127 + 1)) ≤ (l0.length : Int) then (poly_Trim.l0 k ([] : List Int) (l0.take ((wrap64 (t127 + 1)) : Int).toNat) ((l0.take ((wrap64 (t127 + 1)) : Int).toNat).length : Int) 0) else (none)) else (none))
theorem poly_Trim.mono_l : ∀ k, (∀ y0 y1 y2 y3, LeO (poly_Trim.l0 k y0 y1 y2 y3) (poly_Trim.l0 (k + 1) y0 y1 y2 y3))
  | 0 => fun _ _ _ _ r h => by simp [poly_Trim.l0] at h
  | k + 1 => by
    have ih0 := poly_Trim.mono_l k
    · intro y0 y1 y2 y3
      unfold poly_Trim.l0
      repeat' first
      | (with_reducible exact ih0 _ _ _ _)
      | (with_reducible exact poly_Degree.mono _ _)
      | (with_reducible exact LeO.refl _)
      | (with_reducible exact LeO.none _)
      | (with_reducible refine LeO.ite ?_ ?_)
      | (with_reducible refine LeO.bind ?_ (fun _ => ?_))
      | exact ih0 _ _ _ _
      | exact poly_Degree.mono _ _
      | exact LeO.none _
      | refine LeO.ite ?_ ?_
      | refine LeO.bind ?_ (fun _ => ?_)
theorem poly_Trim.mono : ∀ a0 k, LeO (poly_Trim.f k a0) (poly_Trim.f (k + 1) a0) := by
  intro a0 k
  have ih0 := poly_Trim.mono_l k
  unfold poly_Trim.f
  repeat' first
      | (with_reducible exact ih0 _ _ _ _)
      | (with_reducible exact poly_Degree.mono _ _)
      | (with_reducible exact LeO.refl _)
      | (with_reducible exact LeO.none _)
      | (with_reducible refine LeO.ite ?_ ?_)
      | (with_reducible refine LeO.bind ?_ (fun _ => ?_))
      | exact ih0 _ _ _ _
      | exact poly_Degree.mono _ _
      | exact LeO.none _
      | refine LeO.ite ?_ ?_
      | refine LeO.bind ?_ (fun _ => ?_)
set_option maxHeartbeats 80000000 in
set_option maxRecDepth 100000 in
theorem poly_Trim.calls (k : Nat) (A0 : Option Addr) (c0 : Nat) (l0 : List Int) (r : List Int) (w : World) (hr0 : Kd.C (Kd.int .u64) w A0 l0.length l0) (hc0 : l0.length ≤ c0) (h : poly_Trim.f k l0 = some r) :
    Calls Tryd.prog 48 #[.slice A0 l0.length c0] w fun e w' => ∃ v0_ : Value, e = .returned (v0_) ∧ Kd.R (Kd.int .u64) 23 w' w.heap.size (fun _ => True) v0_ r ∧ Below w.heap.size w w' := by
  have HR0 := Aside0.mk hr0
  have HC0 := Aside0.mk hc0
  clear hr0 hc0
  have HB := Aside0.mk (Below.refl w.heap.size w)
  have H : ((poly_Degree.f k l0).bind fun t127 => (if 0 ≤ (wrap64 (t127 + 1)) then (if (wrap64 (t127 + 1)) ≤ (l0.length : Int) then (poly_Trim.l0 k ([] : List Int) (l0.take ((wrap64 (t127 + 1)) : Int).toNat) ((l0.take ((wrap64 (t127 + 1)) : Int).toNat).length : Int) 0) else (none)) else (none))) = some r := h
  clear h
  replace H := Option.bind_eq_some_iff.mp H
  obtain ⟨t127, A20, H⟩ := H
  replace H : (if 0 ≤ (wrap64 (t127 + 1)) then (if (wrap64 (t127 + 1)) ≤ (l0.length : Int) then (poly_Trim.l0 k ([] : List Int) (l0.take ((wrap64 (t127 + 1)) : Int).toNat) ((l0.take ((wrap64 (t127 + 1)) : Int).toNat).length : Int) 0) else (none)) else (none)) = some r := H
  have A2 := Aside0.mk A20
  clear A20
  obtain ⟨ji3, hji3⟩ : ∃ j_ : Int, (wrap64 (t127 + 1)) = j_ := ⟨_, rfl⟩
  (try (have hji3w : (IntKind.i64.wrap (t127 + 1)) = ji3 := by simpa only [i64_w] using hji3))
  replace H : (if 0 ≤ (ji3) then (if (ji3) ≤ (l0.length : Int) then (poly_Trim.l0 k ([] : List Int) (l0.take ((ji3) : Int).toNat) ((l0.take ((ji3) : Int).toNat).length : Int) 0) else (none)) else (none)) = some r := by first | (rw [hji3] at H; exact H) | (simp only [hji3] at H ⊢; exact H)
  (try rw [hji3] at A2)
  have hji3w : (IntKind.i64.wrap (t127 + 1)) = ji3 := (i64_w _).trans hji3
  by_cases c4 : 0 ≤ (ji3)
  · rw [if_pos c4] at H
    have c4b0 := eq_true c4
    have c4b1 : decide (0 ≤ (ji3)) = true := decide_eq_true c4
    clear c4
    by_cases c5 : (ji3) ≤ (l0.length : Int)
    · rw [if_pos c5] at H
      have c5b0 := eq_true c5
      have LTc5 := Aside0.mk (show (((l0.take ((ji3) : Int).toNat).length : Int) = max (ji3) 0) by rw [List.length_take]; omega)
      (try (have LDc5 := Aside0.mk (show ∀ lo_ : Nat, (((l0.take ((ji3) : Int).toNat).drop lo_).length : Int) = ((((ji3) : Int).toNat - lo_ : Nat) : Int) from fun lo_ => by rw [List.length_drop, List.length_take]; omega)))
      have c5b1 : decide ((ji3) ≤ (l0.length : Int)) = true := decide_eq_true c5
      clear c5
      have H' := Aside0.mk H
      clear H
      go_enter Tryd.func48, Tryd.ntmps48
      go_wp2_with (first | ((with_reducible refine gate_callee (f := 56) rfl ?_); refine goesL_ (some 8) rfl rfl Tryd.func56 (by kernel_rfl) rfl #[.slice A0 l0.length c0] rfl (by (try simp only [List.map_toArray, List.map_cons, List.map_nil]); first | done | rfl | (simp only [List.length_drop, List.length_take]; rfl)) ?_; (with_reducible refine (poly_Degree.calls k _ _ l0 t127 _ ?side1 ?side2 A2.out).mono ?_); (case side1 => repeat (first | exact HR0.out | (with_reducible refine Kd.C_alloc ?_ _) | (with_reducible refine Kd.C_drewN ?_ _) | (with_reducible refine Kd.C_drew ?_))); (case side2 => exact HC0.out); rintro e w' ⟨rfl, ⟨nd, rfl⟩⟩; refine ⟨_, rfl, ?_⟩; obtain ⟨i06, hi06, _, hsz6, _⟩ := info_parts info23; obtain ⟨hcut6, hA6, hC6⟩ := print_take_of (P := Tryd.prog) (Value.int .u64) 0 22 23 .i64 Tryd.underlying22 hi06 hsz6 A0 c0 l0 (ji3) (of_decide_eq_true (by first | (with_reducible assumption) | assumption)) (of_decide_eq_true (by first | (with_reducible assumption) | assumption)) HC0.out; have HR128 := Aside0.mk (Kd.C_of_reads (h1 := fun _ => rfl) (hA6 _ (Kd.reads_of_C HR0.out))); have HC128 := Aside0.mk hC6; clear hA6 hC6 hi06 hsz6) | (go_at_call 56; (with_reducible refine (poly_Degree.calls k _ _ l0 t127 _ ?side1 ?side2 A2.out).mono ?_); (case side1 => repeat (first | exact HR0.out | (with_reducible refine Kd.C_alloc ?_ _) | (with_reducible refine Kd.C_drewN ?_ _) | (with_reducible refine Kd.C_drew ?_))); (case side2 => exact HC0.out); rintro e w' ⟨rfl, ⟨nd, rfl⟩⟩; obtain ⟨i06, hi06, _, hsz6, _⟩ := info_parts info23; obtain ⟨hcut6, hA6, hC6⟩ := print_take_of (P := Tryd.prog) (Value.int .u64) 0 22 23 .i64 Tryd.underlying22 hi06 hsz6 A0 c0 l0 (ji3) (of_decide_eq_true (by first | (with_reducible assumption) | assumption)) (of_decide_eq_true (by first | (with_reducible assumption) | assumption)) HC0.out; have HR128 := Aside0.mk (Kd.C_of_reads (h1 := fun _ => rfl) (hA6 _ (Kd.reads_of_C HR0.out))); have HC128 := Aside0.mk hC6; clear hA6 hC6 hi06 hsz6))
      go_loopg [3, 12] k (fun kq v3 v12 w' => ∃ (x3_1 : List Int) (x12_1 : Int), v12 = .int .i64 x12_1 ∧ Aside0 (poly_Trim.l0 kq x3_1 (l0.take ((ji3) : Int).toNat) ((l0.take ((ji3) : Int).toNat).length : Int) x12_1 = some r) ∧ Aside0 (kq ≤ k) ∧ Aside0 (Kd.R (Kd.int .u64) 23 w' w.heap.size (fun _ => True) v3 x3_1) ∧ Aside0 (Below w.heap.size w w'))
      case atStart => exact ⟨(([] : List Int)), (0), (by first | rfl | (simp; done) | (simp [*]; done)), H', ⟨Nat.le_refl _⟩, ⟨by first | exact Kd.R_nil _ _ _ _ _ | exact Kd.N_nil _ _ _ _ _ | exact Kd.V_nil _ _ _ _ _ | exact Kd.Q_nil _ _ _ _ _ | exact Kd.S_nil _ _ _ _ _⟩, ⟨by repeat (first | (with_reducible first | exact HB.out | apply below_alloc | apply pw_below_drewN | apply below_drew1) | exact HB.out)⟩⟩
      case round =>
        clear H'
        try clear p2
        try clear c4
        try clear c4b0
        try clear c4b1
        try clear c5
        try clear c5b0
        try clear c5b1
        try clear p6
        obtain ⟨x3_1, x12_1, rfl, HA, HK1, HO_3, HB⟩ := hrel
        cases gk with
        | zero => exact absurd HA.out (by simp [poly_Trim.l0])
        | succ k1 =>
          have H := HA.out
          clear HA
          simp only [poly_Trim.l0] at H
          by_cases c7 : x12_1 < ((l0.take ((ji3) : Int).toNat).length : Int)
          · rw [if_pos c7] at H
            have c7b0 : decide (x12_1 < ((l0.take ((ji3) : Int).toNat).length : Int)) = true := decide_eq_true c7
            (try (have c7b0_0 := c7b0; rw [LTc5.out] at c7b0_0))
            (try (have c7b0_0p := eq_true (of_decide_eq_true c7b0_0)))
            (try (have c7b0_1 := c7b0; rw [LDc5.out] at c7b0_1))
            (try (have c7b0_1p := eq_true (of_decide_eq_true c7b0_1)))
            clear c7
            by_cases c8 : 0 ≤ x12_1
            · rw [if_pos c8] at H
              have c8b0 : decide (0 ≤ x12_1) = true := decide_eq_true c8
              clear c8
              by_cases c9 : x12_1 < ((l0.take ((ji3) : Int).toNat).length : Int)
              · rw [if_pos c9] at H
                have c9b0 : decide (x12_1 < ((l0.take ((ji3) : Int).toNat).length : Int)) = true := decide_eq_true c9
                (try (have c9b0_0 := c9b0; rw [LTc5.out] at c9b0_0))
                (try (have c9b0_0p := eq_true (of_decide_eq_true c9b0_0)))
                (try (have c9b0_1 := c9b0; rw [LDc5.out] at c9b0_1))
                (try (have c9b0_1p := eq_true (of_decide_eq_true c9b0_1)))
                clear c9
                replace H := Option.bind_eq_some_iff.mp H
                obtain ⟨t130, A100, H⟩ := H
                replace H : (if x3_1.length < 17592186044416 then (poly_Trim.l0 k1 (x3_1 ++ [t130]) (l0.take ((ji3) : Int).toNat) ((l0.take ((ji3) : Int).toNat).length : Int) (wrap64 (x12_1 + 1))) else (none)) = some r := H
                have A10 := Aside0.mk A100
                clear A100
                by_cases c11 : x3_1.length < 17592186044416
                · rw [if_pos c11] at H
                  have LMc11 := Aside0.mk c11
                  clear c11
                  obtain ⟨y131, hy131⟩ : ∃ y_ : List Int, y_ = (x3_1 ++ [t130]) := ⟨_, rfl⟩
                  replace H : (poly_Trim.l0 k1 y131 (l0.take ((ji3) : Int).toNat) ((l0.take ((ji3) : Int).toNat).length : Int) (wrap64 (x12_1 + 1))) = some r := by first | (rw [hy131]; with_reducible exact H) | (have H2_ := (Option.bind_some _ _).symm.trans H; rw [hy131]; with_reducible exact H2_) | (have H2_ := (Option.bind_some _ _).symm.trans H; with_reducible exact H2_) | with_reducible exact H | (rw [hy131]; exact H) | exact H
                  have Ny131 := Aside0.mk hy131
                  clear hy131
                  have H' := Aside0.mk H
                  clear H
                  have p129 : 0 ≤ (x12_1 : Int) := of_decide_eq_true (by first | (with_reducible assumption) | assumption)
                  have q129 : x12_1 < ((l0.take ((ji3) : Int).toNat).length : Int) := of_decide_eq_true (by first | (with_reducible assumption) | assumption)
                  obtain ⟨ad129, e129, hx129_0⟩ := Kd.at_int HR128.out x12_1 p129 q129
                  cases e129
                  replace hx129_0 := (HB.out.cell (World.block_lt_of_cell? w _ hx129_0)).trans hx129_0
                  replace p129 := eq_true p129
                  replace q129 := eq_true q129
                  go_wp2_with (first | ((with_reducible refine gate_callee (f := 57) rfl ?_); refine goesL_ (some 18) rfl rfl Tryd.func57 (by kernel_rfl) rfl #[.int .u64 (rd (l0.take ((ji3) : Int).toNat) x12_1)] rfl (by (try simp only [List.map_toArray, List.map_cons, List.map_nil]); first | done | (simp only [hji3]; rfl) | rfl | (simp only [List.length_drop, List.length_take]; rfl)) ?_; (with_reducible refine (gold_Of.calls (rd (l0.take ((ji3) : Int).toNat) x12_1) t130 _ A10.out).mono ?_); rintro e w' ⟨rfl, ⟨nd, rfl⟩⟩; refine ⟨_, rfl, ?_⟩) | (go_at_call 57; (with_reducible refine (gold_Of.calls (rd (l0.take ((ji3) : Int).toNat) x12_1) t130 _ A10.out).mono ?_); rintro e w' ⟨rfl, ⟨nd, rfl⟩⟩) | ((with_reducible refine gate_builtin (b := .append) (xs := #[.tmp 16, .tmp 19]) rfl ?_); at_builtin; refine Kd.R_append (Kd.int .u64) (w0 := w) w.heap.size rfl (.tmp 16) (.tmp 19) 22 23 (.int .u64 0) 8 rfl Tryd.underlying22 info23 rfl (by decide) (by omega) u3 x3_1 t130 [.int .u64 t130] (fun _ => True) (fun _ => False) rfl rfl ?aP (fun _ hk => hk.elim) ?aF ?aO ?aB ?aS ?aL ?_; (case aP => exact rfl); (case aB => exact (by repeat (first | (with_reducible first | exact HB.out | apply below_alloc | apply pw_below_drewN | apply below_drew1) | exact HB.out))); (case aF => exact (fun _ _ => trivial)); (case aO => exact (by (with_reducible repeat (first | apply Kd.R_alloc | apply Kd.R_drewN | apply Kd.R_drew)); exact HO_3.out)); (case aS => exact (below_size (by repeat (first | (with_reducible first | exact HB.out | apply below_alloc | apply pw_below_drewN | apply below_drew1) | exact HB.out)))); (case aL => have := LMc11.out; omega); intro v132 w12 ho hb hg hat; rw [← Ny131.out] at ho; have n0_ := Aside0.mk (hb); have n1_ := Aside0.mk (ho); clear HB; clear HO_3; have HB := n0_; have HO133 := n1_; clear n0_ n1_; clear ho hb hg hat))
                  (first | go_roundg k1 | (simp only [add_plain] at *; go_roundg k1))
                  case measure => have := HK1.out; omega
                  case rel => exact ⟨(y131), (wrap64 (x12_1 + 1)), (by first | rfl | (simp; done) | (simp [*]; done)), H', ⟨by have := HK1.out; omega⟩, ⟨by (with_reducible repeat (first | apply Kd.R_alloc | apply Kd.R_drewN | apply Kd.R_drew)); exact HO133.out⟩, ⟨by repeat (first | (with_reducible first | exact HB.out | apply below_alloc | apply pw_below_drewN | apply below_drew1) | exact HB.out)⟩⟩
                · rw [if_neg c11] at H
                  exact absurd H (by simp)
              · rw [if_neg c9] at H
                exact absurd H (by simp)
            · rw [if_neg c8] at H
              exact absurd H (by simp)
          · rw [if_neg c7] at H
            have c7b0 : decide (x12_1 < ((l0.take ((ji3) : Int).toNat).length : Int)) = false := decide_eq_false c7
            (try (have c7b0_0 := c7b0; rw [LTc5.out] at c7b0_0))
            (try (have c7b0_1 := c7b0; rw [LDc5.out] at c7b0_1))
            clear c7
            obtain rfl := Option.some.inj H
            go_wp2
            go_ret
            exact ⟨_, by first | rfl | (simp [errW_none, errW_some] <;> rfl) | (simp only [← hji3]; first | rfl | (simp [errW_none, errW_some] <;> rfl)) | (simp [*, errW_none, errW_some] <;> rfl), by (with_reducible repeat (first | apply Kd.R_alloc | apply Kd.R_drewN | apply Kd.R_drew)); exact HO_3.out, by repeat (first | (with_reducible first | exact HB.out | apply below_alloc | apply pw_below_drewN | apply below_drew1) | exact HB.out)⟩
    · rw [if_neg c5] at H
      exact absurd H (by simp)
  · rw [if_neg c4] at H
    exact absurd H (by simp)

/-! ### conv_exponent: function 49 -/
def conv_exponent.l0 : Nat → Int → Int → Option (Int)
  | 0, _, _ => none
  | k + 1, x0, x3 => if 0 ≤ (IntKind.u64.wrap (x3)) then (if (shl .i64 1 (IntKind.u64.wrap (x3))) < x0 then (conv_exponent.l0 k x0 (wrap64 (x3 + 1))) else (some x3)) else (none)
def conv_exponent.f (k : Nat) (a0 : Int) : Option (Int) := conv_exponent.l0 k a0 0
theorem conv_exponent.mono_l : ∀ k, (∀ y0 y1, LeO (conv_exponent.l0 k y0 y1) (conv_exponent.l0 (k + 1) y0 y1))
  | 0 => fun _ _ r h => by simp [conv_exponent.l0] at h
  | k + 1 => by
    have ih0 := conv_exponent.mono_l k
    · intro y0 y1
      unfold conv_exponent.l0
      repeat' first
      | (with_reducible exact ih0 _ _)
      | (with_reducible exact LeO.refl _)
      | (with_reducible exact LeO.none _)
      | (with_reducible refine LeO.ite ?_ ?_)
      | (with_reducible refine LeO.bind ?_ (fun _ => ?_))
      | exact ih0 _ _
      | exact LeO.none _
      | refine LeO.ite ?_ ?_
      | refine LeO.bind ?_ (fun _ => ?_)
theorem conv_exponent.mono : ∀ a0 k, LeO (conv_exponent.f k a0) (conv_exponent.f (k + 1) a0) := by
  intro a0 k
  have ih0 := conv_exponent.mono_l k
  unfold conv_exponent.f
  repeat' first
      | (with_reducible exact ih0 _ _)
      | (with_reducible exact LeO.refl _)
      | (with_reducible exact LeO.none _)
      | (with_reducible refine LeO.ite ?_ ?_)
      | (with_reducible refine LeO.bind ?_ (fun _ => ?_))
      | exact ih0 _ _
      | exact LeO.none _
      | refine LeO.ite ?_ ?_
      | refine LeO.bind ?_ (fun _ => ?_)
set_option maxHeartbeats 8000000 in
set_option maxRecDepth 100000 in
theorem conv_exponent.calls (k : Nat) (a0 : Int) (r : Int) (w : World) (h : conv_exponent.f k a0 = some r) :
    Calls Tryd.prog 49 #[.int .i64 a0] w fun e w' => e = .returned (.int .i64 r) ∧ Drawn0 w w' := by
  have H : (conv_exponent.l0 k a0 0) = some r := h
  clear h
  have H' := Aside0.mk H
  clear H
  go_enter Tryd.func49, Tryd.ntmps49
  go_wp2
  go_loopg [3] k (fun kq v3 w' => ∃ (x3_1 : Int), v3 = .int .i64 x3_1 ∧ Aside0 (conv_exponent.l0 kq a0 x3_1 = some r) ∧ Aside0 (kq ≤ k) ∧ Drawn0 w w')
  case atStart => exact ⟨(0), (by first | rfl | (simp; done) | (simp [*]; done)), H', ⟨Nat.le_refl _⟩, by repeat (first | exact Drawn0.refl _ | apply Drawn0.step)⟩
  case round =>
    clear H'
    obtain ⟨x3_1, rfl, HA, HK1, ⟨m1, rfl⟩⟩ := hrel
    cases gk with
    | zero => exact absurd HA.out (by simp [conv_exponent.l0])
    | succ k1 =>
      have H := HA.out
      clear HA
      simp only [conv_exponent.l0] at H
      obtain ⟨ji2, hji2⟩ : ∃ j_ : Int, (IntKind.u64.wrap (x3_1)) = j_ := ⟨_, rfl⟩
      replace H : (if 0 ≤ (ji2) then (if (shl .i64 1 (ji2)) < a0 then (conv_exponent.l0 k1 a0 (wrap64 (x3_1 + 1))) else (some x3_1)) else (none)) = some r := by first | (rw [hji2] at H; exact H) | (simp only [hji2] at H ⊢; exact H)
      by_cases c3 : 0 ≤ (ji2)
      · rw [if_pos c3] at H
        have c3b0 := eq_true c3
        have c3b1 : decide (0 ≤ (ji2)) = true := decide_eq_true c3
        clear c3
        obtain ⟨ji4, hji4⟩ : ∃ j_ : Int, (shl .i64 1 (ji2)) = j_ := ⟨_, rfl⟩
        replace H : (if (ji4) < a0 then (conv_exponent.l0 k1 a0 (wrap64 (x3_1 + 1))) else (some x3_1)) = some r := by first | (rw [hji4] at H; exact H) | (simp only [hji4] at H ⊢; exact H)
        have hji4_ : (IntKind.i64.wrap (1 * 2 ^ min (ji2).toNat 64)) = ji4 := hji4
        have hji4z : (ji2) ≤ 64 → (IntKind.i64.wrap (1 * 2 ^ (ji2).toNat)) = ji4 := shl_small hji4
        have hji4u : (IntKind.i64.wrap (2 ^ min (ji2).toNat 64)) = ji4 := by have h_ := hji4_; rw [Int.one_mul] at h_; exact h_
        have hji4v : (ji2) ≤ 64 → (IntKind.i64.wrap (2 ^ (ji2).toNat)) = ji4 := fun hle_ => by have h_ := hji4z hle_; rw [Int.one_mul] at h_; exact h_
        have hji4y : (wrap64 (1 * 2 ^ min (ji2).toNat 64)) = ji4 := (i64_w _).symm.trans hji4_
        have hji4x : (ji2) ≤ 64 → (wrap64 (1 * 2 ^ (ji2).toNat)) = ji4 := fun h_ => (i64_w _).symm.trans (hji4z h_)
        by_cases c5 : (ji4) < a0
        · rw [if_pos c5] at H
          have c5b0 : decide ((ji4) < a0) = true := decide_eq_true c5
          clear c5
          have H' := Aside0.mk H
          clear H
          go_wp2
          (first | go_roundg k1 | (simp only [add_plain] at *; go_roundg k1))
          case measure => have := HK1.out; omega
          case rel => exact ⟨(wrap64 (x3_1 + 1)), (by first | rfl | (simp; done) | (simp [*]; done)), H', ⟨by have := HK1.out; omega⟩, by repeat (first | exact Drawn0.refl _ | apply Drawn0.step)⟩
        · rw [if_neg c5] at H
          have c5b0 : decide ((ji4) < a0) = false := decide_eq_false c5
          clear c5
          obtain rfl := Option.some.inj H
          go_wp2
          go_ret
          exact ⟨by first | rfl | (simp; done) | (simp only [← hji2, ← hji4] <;> (first | rfl | simp)) | (simp [*]; done), by repeat (first | exact Drawn0.refl _ | apply Drawn0.step)⟩
      · rw [if_neg c3] at H
        exact absurd H (by simp)

/-! ### gold_Reduce: function 72 -/
def gold_Reduce.f (a0_0 : Int) (a0_1 : Int) : Option (Int) := if a0_1 < (a0_0 / 4294967296) then (if (IntKind.u64.wrap ((IntKind.u64.wrap ((IntKind.u64.wrap (a0_1 - (a0_0 / 4294967296))) - 4294967295)) + (IntKind.u64.wrap ((Go.bits .and .u64 a0_0 4294967295) * 4294967295)))) < (IntKind.u64.wrap ((Go.bits .and .u64 a0_0 4294967295) * 4294967295)) then ((gold_Of.f (IntKind.u64.wrap ((IntKind.u64.wrap ((IntKind.u64.wrap ((IntKind.u64.wrap (a0_1 - (a0_0 / 4294967296))) - 4294967295)) + (IntKind.u64.wrap ((Go.bits .and .u64 a0_0 4294967295) * 4294967295)))) + 4294967295))).bind fun t135 => (some t135)) else ((gold_Of.f (IntKind.u64.wrap ((IntKind.u64.wrap ((IntKind.u64.wrap (a0_1 - (a0_0 / 4294967296))) - 4294967295)) + (IntKind.u64.wrap ((Go.bits .and .u64 a0_0 4294967295) * 4294967295))))).bind fun t136 => (some t136))) else (if (IntKind.u64.wrap ((IntKind.u64.wrap (a0_1 - (a0_0 / 4294967296))) + (IntKind.u64.wrap ((Go.bits .and .u64 a0_0 4294967295) * 4294967295)))) < (IntKind.u64.wrap ((Go.bits .and .u64 a0_0 4294967295) * 4294967295)) then ((gold_Of.f (IntKind.u64.wrap ((IntKind.u64.wrap ((IntKind.u64.wrap (a0_1 - (a0_0 / 4294967296))) + (IntKind.u64.wrap ((Go.bits .and .u64 a0_0 4294967295) * 4294967295)))) + 4294967295))).bind fun t137 => (some t137)) else ((gold_Of.f (IntKind.u64.wrap ((IntKind.u64.wrap (a0_1 - (a0_0 / 4294967296))) + (IntKind.u64.wrap ((Go.bits .and .u64 a0_0 4294967295) * 4294967295))))).bind fun t138 => (some t138)))
set_option maxHeartbeats 8000000 in
set_option maxRecDepth 100000 in
theorem gold_Reduce.calls (a0_0 : Int) (a0_1 : Int) (r : Int) (w : World) (h : gold_Reduce.f a0_0 a0_1 = some r) :
    Calls Tryd.prog 72 #[.agg #[.int .u64 a0_0, .int .u64 a0_1]] w fun e w' => e = .returned (.int .u64 r) ∧ Below w.heap.size w w' := by
  have hu100 := Tryd.underlying100
  have HB := Aside0.mk (Below.refl w.heap.size w)
  have H : (if a0_1 < (a0_0 / 4294967296) then (if (IntKind.u64.wrap ((IntKind.u64.wrap ((IntKind.u64.wrap (a0_1 - (a0_0 / 4294967296))) - 4294967295)) + (IntKind.u64.wrap ((Go.bits .and .u64 a0_0 4294967295) * 4294967295)))) < (IntKind.u64.wrap ((Go.bits .and .u64 a0_0 4294967295) * 4294967295)) then ((gold_Of.f (IntKind.u64.wrap ((IntKind.u64.wrap ((IntKind.u64.wrap ((IntKind.u64.wrap (a0_1 - (a0_0 / 4294967296))) - 4294967295)) + (IntKind.u64.wrap ((Go.bits .and .u64 a0_0 4294967295) * 4294967295)))) + 4294967295))).bind fun t135 => (some t135)) else ((gold_Of.f (IntKind.u64.wrap ((IntKind.u64.wrap ((IntKind.u64.wrap (a0_1 - (a0_0 / 4294967296))) - 4294967295)) + (IntKind.u64.wrap ((Go.bits .and .u64 a0_0 4294967295) * 4294967295))))).bind fun t136 => (some t136))) else (if (IntKind.u64.wrap ((IntKind.u64.wrap (a0_1 - (a0_0 / 4294967296))) + (IntKind.u64.wrap ((Go.bits .and .u64 a0_0 4294967295) * 4294967295)))) < (IntKind.u64.wrap ((Go.bits .and .u64 a0_0 4294967295) * 4294967295)) then ((gold_Of.f (IntKind.u64.wrap ((IntKind.u64.wrap ((IntKind.u64.wrap (a0_1 - (a0_0 / 4294967296))) + (IntKind.u64.wrap ((Go.bits .and .u64 a0_0 4294967295) * 4294967295)))) + 4294967295))).bind fun t137 => (some t137)) else ((gold_Of.f (IntKind.u64.wrap ((IntKind.u64.wrap (a0_1 - (a0_0 / 4294967296))) + (IntKind.u64.wrap ((Go.bits .and .u64 a0_0 4294967295) * 4294967295))))).bind fun t138 => (some t138)))) = some r := h
  clear h
  by_cases c2 : a0_1 < (a0_0 / 4294967296)
  · rw [if_pos c2] at H
    have c2b0 : decide (a0_1 < (a0_0 / 4294967296)) = true := decide_eq_true c2
    clear c2
    by_cases c3 : (IntKind.u64.wrap ((IntKind.u64.wrap ((IntKind.u64.wrap (a0_1 - (a0_0 / 4294967296))) - 4294967295)) + (IntKind.u64.wrap ((Go.bits .and .u64 a0_0 4294967295) * 4294967295)))) < (IntKind.u64.wrap ((Go.bits .and .u64 a0_0 4294967295) * 4294967295))
    · rw [if_pos c3] at H
      have c3b0 : decide ((IntKind.u64.wrap ((IntKind.u64.wrap ((IntKind.u64.wrap (a0_1 - (a0_0 / 4294967296))) - 4294967295)) + (IntKind.u64.wrap ((Go.bits .and .u64 a0_0 4294967295) * 4294967295)))) < (IntKind.u64.wrap ((Go.bits .and .u64 a0_0 4294967295) * 4294967295))) = true := decide_eq_true c3
      clear c3
      replace H := Option.bind_eq_some_iff.mp H
      obtain ⟨t135, A40, H⟩ := H
      replace H : (some t135) = some r := H
      have A4 := Aside0.mk A40
      clear A40
      obtain rfl := Option.some.inj H
      go_enter Tryd.func72, Tryd.ntmps72
      go_wp2_with (first | ((with_reducible refine gate_dst (N := 1) rfl ?_); refine box_event ?hg (N := 1) ?hd (cs := #[.int .u64 a0_0, .int .u64 a0_1]) (t := 100) ?hr ?_; (case hd => rfl); (case hg => rfl); (case hr => first | (go_simp; done) | (go_simp; rfl)); intro gb134 hg w5 hbox hb; have n0_ := Aside0.mk (below_step (by repeat (first | (with_reducible first | exact HB.out | apply below_alloc | apply pw_below_drewN | apply below_drew1) | exact HB.out)) hb); have n1_ := Aside0.mk (hbox); have n2_ := Aside0.mk ((by rw [hg]; exact (below_size (by repeat (first | (with_reducible first | exact HB.out | apply below_alloc | apply pw_below_drewN | apply below_drew1) | exact HB.out))) : w.heap.size ≤ gb134)); have n3_ := Aside0.mk ((by rw [hg]; exact (below_size (by repeat (first | (with_reducible first | exact HB.out | apply below_alloc | apply pw_below_drewN | apply below_drew1) | exact HB.out))) : w.heap.size ≤ gb134)); clear HB; have HB := n0_; have BK134 := n1_; have GW134 := n2_; have GE134 := n3_; clear n0_ n1_ n2_ n3_; clear hb hbox hg; have hcz6_0 : w5.cell? ⟨gb134, 0, none⟩ = some (.int .u64 a0_0) := (blk_cell BK134.out 0).trans rfl; have hcz6_1 : w5.cell? ⟨gb134, 1, none⟩ = some (.int .u64 a0_1) := (blk_cell BK134.out 1).trans rfl; have hfz6_0 := blk_frozen BK134.out 0; have hfz6_1 := blk_frozen BK134.out 1) | (go_at_call 57; (with_reducible refine (gold_Of.calls (IntKind.u64.wrap ((IntKind.u64.wrap ((IntKind.u64.wrap ((IntKind.u64.wrap (a0_1 - (a0_0 / 4294967296))) - 4294967295)) + (IntKind.u64.wrap ((Go.bits .and .u64 a0_0 4294967295) * 4294967295)))) + 4294967295)) t135 _ A4.out).mono ?_); rintro e w' ⟨rfl, ⟨nd, rfl⟩⟩; (try first | exact ⟨rfl, _, World.drewN_drewN _ _ _⟩ | exact ⟨rfl, _, Eq.trans (World.drewN_drewN _ _ _) (congrArg (World.drewN _) (Nat.add_assoc _ _ _))⟩)))
      repeat (go_quiet (first | ((with_reducible refine gate_dst (N := 1) rfl ?_); refine box_event ?hg (N := 1) ?hd (cs := #[.int .u64 a0_0, .int .u64 a0_1]) (t := 100) ?hr ?_; (case hd => rfl); (case hg => rfl); (case hr => first | (go_simp; done) | (go_simp; rfl)); intro gb134 hg w5 hbox hb; have n0_ := Aside0.mk (below_step (by repeat (first | (with_reducible first | exact HB.out | apply below_alloc | apply pw_below_drewN | apply below_drew1) | exact HB.out)) hb); have n1_ := Aside0.mk (hbox); have n2_ := Aside0.mk ((by rw [hg]; exact (below_size (by repeat (first | (with_reducible first | exact HB.out | apply below_alloc | apply pw_below_drewN | apply below_drew1) | exact HB.out))) : w.heap.size ≤ gb134)); have n3_ := Aside0.mk ((by rw [hg]; exact (below_size (by repeat (first | (with_reducible first | exact HB.out | apply below_alloc | apply pw_below_drewN | apply below_drew1) | exact HB.out))) : w.heap.size ≤ gb134)); clear HB; have HB := n0_; have BK134 := n1_; have GW134 := n2_; have GE134 := n3_; clear n0_ n1_ n2_ n3_; clear hb hbox hg; have hcz6_0 : w5.cell? ⟨gb134, 0, none⟩ = some (.int .u64 a0_0) := (blk_cell BK134.out 0).trans rfl; have hcz6_1 : w5.cell? ⟨gb134, 1, none⟩ = some (.int .u64 a0_1) := (blk_cell BK134.out 1).trans rfl; have hfz6_0 := blk_frozen BK134.out 0; have hfz6_1 := blk_frozen BK134.out 1) | (go_at_call 57; (with_reducible refine (gold_Of.calls (IntKind.u64.wrap ((IntKind.u64.wrap ((IntKind.u64.wrap ((IntKind.u64.wrap (a0_1 - (a0_0 / 4294967296))) - 4294967295)) + (IntKind.u64.wrap ((Go.bits .and .u64 a0_0 4294967295) * 4294967295)))) + 4294967295)) t135 _ A4.out).mono ?_); rintro e w' ⟨rfl, ⟨nd, rfl⟩⟩; (try first | exact ⟨rfl, _, World.drewN_drewN _ _ _⟩ | exact ⟨rfl, _, Eq.trans (World.drewN_drewN _ _ _) (congrArg (World.drewN _) (Nat.add_assoc _ _ _))⟩))); try go_wp2_with (first | ((with_reducible refine gate_dst (N := 1) rfl ?_); refine box_event ?hg (N := 1) ?hd (cs := #[.int .u64 a0_0, .int .u64 a0_1]) (t := 100) ?hr ?_; (case hd => rfl); (case hg => rfl); (case hr => first | (go_simp; done) | (go_simp; rfl)); intro gb134 hg w5 hbox hb; have n0_ := Aside0.mk (below_step (by repeat (first | (with_reducible first | exact HB.out | apply below_alloc | apply pw_below_drewN | apply below_drew1) | exact HB.out)) hb); have n1_ := Aside0.mk (hbox); have n2_ := Aside0.mk ((by rw [hg]; exact (below_size (by repeat (first | (with_reducible first | exact HB.out | apply below_alloc | apply pw_below_drewN | apply below_drew1) | exact HB.out))) : w.heap.size ≤ gb134)); have n3_ := Aside0.mk ((by rw [hg]; exact (below_size (by repeat (first | (with_reducible first | exact HB.out | apply below_alloc | apply pw_below_drewN | apply below_drew1) | exact HB.out))) : w.heap.size ≤ gb134)); clear HB; have HB := n0_; have BK134 := n1_; have GW134 := n2_; have GE134 := n3_; clear n0_ n1_ n2_ n3_; clear hb hbox hg; have hcz6_0 : w5.cell? ⟨gb134, 0, none⟩ = some (.int .u64 a0_0) := (blk_cell BK134.out 0).trans rfl; have hcz6_1 : w5.cell? ⟨gb134, 1, none⟩ = some (.int .u64 a0_1) := (blk_cell BK134.out 1).trans rfl; have hfz6_0 := blk_frozen BK134.out 0; have hfz6_1 := blk_frozen BK134.out 1) | (go_at_call 57; (with_reducible refine (gold_Of.calls (IntKind.u64.wrap ((IntKind.u64.wrap ((IntKind.u64.wrap ((IntKind.u64.wrap (a0_1 - (a0_0 / 4294967296))) - 4294967295)) + (IntKind.u64.wrap ((Go.bits .and .u64 a0_0 4294967295) * 4294967295)))) + 4294967295)) t135 _ A4.out).mono ?_); rintro e w' ⟨rfl, ⟨nd, rfl⟩⟩; (try first | exact ⟨rfl, _, World.drewN_drewN _ _ _⟩ | exact ⟨rfl, _, Eq.trans (World.drewN_drewN _ _ _) (congrArg (World.drewN _) (Nat.add_assoc _ _ _))⟩))))
      go_ret
      exact ⟨by first | rfl | (simp [errW_none, errW_some] <;> rfl) | (simp [*, errW_none, errW_some] <;> rfl), by repeat (first | (with_reducible first | exact HB.out | apply below_alloc | apply pw_below_drewN | apply below_drew1 | refine below_set ?_ GE134.out) | exact HB.out)⟩
    · rw [if_neg c3] at H
      have c3b0 : decide ((IntKind.u64.wrap ((IntKind.u64.wrap ((IntKind.u64.wrap (a0_1 - (a0_0 / 4294967296))) - 4294967295)) + (IntKind.u64.wrap ((Go.bits .and .u64 a0_0 4294967295) * 4294967295)))) < (IntKind.u64.wrap ((Go.bits .and .u64 a0_0 4294967295) * 4294967295))) = false := decide_eq_false c3
      clear c3
      replace H := Option.bind_eq_some_iff.mp H
      obtain ⟨t136, A70, H⟩ := H
      replace H : (some t136) = some r := H
      have A7 := Aside0.mk A70
      clear A70
      obtain rfl := Option.some.inj H
      go_enter Tryd.func72, Tryd.ntmps72
      go_wp2_with (first | ((with_reducible refine gate_dst (N := 1) rfl ?_); refine box_event ?hg (N := 1) ?hd (cs := #[.int .u64 a0_0, .int .u64 a0_1]) (t := 100) ?hr ?_; (case hd => rfl); (case hg => rfl); (case hr => first | (go_simp; done) | (go_simp; rfl)); intro gb134 hg w8 hbox hb; have n0_ := Aside0.mk (below_step (by repeat (first | (with_reducible first | exact HB.out | apply below_alloc | apply pw_below_drewN | apply below_drew1) | exact HB.out)) hb); have n1_ := Aside0.mk (hbox); have n2_ := Aside0.mk ((by rw [hg]; exact (below_size (by repeat (first | (with_reducible first | exact HB.out | apply below_alloc | apply pw_below_drewN | apply below_drew1) | exact HB.out))) : w.heap.size ≤ gb134)); have n3_ := Aside0.mk ((by rw [hg]; exact (below_size (by repeat (first | (with_reducible first | exact HB.out | apply below_alloc | apply pw_below_drewN | apply below_drew1) | exact HB.out))) : w.heap.size ≤ gb134)); clear HB; have HB := n0_; have BK134 := n1_; have GW134 := n2_; have GE134 := n3_; clear n0_ n1_ n2_ n3_; clear hb hbox hg; have hcz9_0 : w8.cell? ⟨gb134, 0, none⟩ = some (.int .u64 a0_0) := (blk_cell BK134.out 0).trans rfl; have hcz9_1 : w8.cell? ⟨gb134, 1, none⟩ = some (.int .u64 a0_1) := (blk_cell BK134.out 1).trans rfl; have hfz9_0 := blk_frozen BK134.out 0; have hfz9_1 := blk_frozen BK134.out 1) | (go_at_call 57; (with_reducible refine (gold_Of.calls (IntKind.u64.wrap ((IntKind.u64.wrap ((IntKind.u64.wrap (a0_1 - (a0_0 / 4294967296))) - 4294967295)) + (IntKind.u64.wrap ((Go.bits .and .u64 a0_0 4294967295) * 4294967295)))) t136 _ A7.out).mono ?_); rintro e w' ⟨rfl, ⟨nd, rfl⟩⟩; (try first | exact ⟨rfl, _, World.drewN_drewN _ _ _⟩ | exact ⟨rfl, _, Eq.trans (World.drewN_drewN _ _ _) (congrArg (World.drewN _) (Nat.add_assoc _ _ _))⟩)))
      repeat (go_quiet (first | ((with_reducible refine gate_dst (N := 1) rfl ?_); refine box_event ?hg (N := 1) ?hd (cs := #[.int .u64 a0_0, .int .u64 a0_1]) (t := 100) ?hr ?_; (case hd => rfl); (case hg => rfl); (case hr => first | (go_simp; done) | (go_simp; rfl)); intro gb134 hg w8 hbox hb; have n0_ := Aside0.mk (below_step (by repeat (first | (with_reducible first | exact HB.out | apply below_alloc | apply pw_below_drewN | apply below_drew1) | exact HB.out)) hb); have n1_ := Aside0.mk (hbox); have n2_ := Aside0.mk ((by rw [hg]; exact (below_size (by repeat (first | (with_reducible first | exact HB.out | apply below_alloc | apply pw_below_drewN | apply below_drew1) | exact HB.out))) : w.heap.size ≤ gb134)); have n3_ := Aside0.mk ((by rw [hg]; exact (below_size (by repeat (first | (with_reducible first | exact HB.out | apply below_alloc | apply pw_below_drewN | apply below_drew1) | exact HB.out))) : w.heap.size ≤ gb134)); clear HB; have HB := n0_; have BK134 := n1_; have GW134 := n2_; have GE134 := n3_; clear n0_ n1_ n2_ n3_; clear hb hbox hg; have hcz9_0 : w8.cell? ⟨gb134, 0, none⟩ = some (.int .u64 a0_0) := (blk_cell BK134.out 0).trans rfl; have hcz9_1 : w8.cell? ⟨gb134, 1, none⟩ = some (.int .u64 a0_1) := (blk_cell BK134.out 1).trans rfl; have hfz9_0 := blk_frozen BK134.out 0; have hfz9_1 := blk_frozen BK134.out 1) | (go_at_call 57; (with_reducible refine (gold_Of.calls (IntKind.u64.wrap ((IntKind.u64.wrap ((IntKind.u64.wrap (a0_1 - (a0_0 / 4294967296))) - 4294967295)) + (IntKind.u64.wrap ((Go.bits .and .u64 a0_0 4294967295) * 4294967295)))) t136 _ A7.out).mono ?_); rintro e w' ⟨rfl, ⟨nd, rfl⟩⟩; (try first | exact ⟨rfl, _, World.drewN_drewN _ _ _⟩ | exact ⟨rfl, _, Eq.trans (World.drewN_drewN _ _ _) (congrArg (World.drewN _) (Nat.add_assoc _ _ _))⟩))); try go_wp2_with (first | ((with_reducible refine gate_dst (N := 1) rfl ?_); refine box_event ?hg (N := 1) ?hd (cs := #[.int .u64 a0_0, .int .u64 a0_1]) (t := 100) ?hr ?_; (case hd => rfl); (case hg => rfl); (case hr => first | (go_simp; done) | (go_simp; rfl)); intro gb134 hg w8 hbox hb; have n0_ := Aside0.mk (below_step (by repeat (first | (with_reducible first | exact HB.out | apply below_alloc | apply pw_below_drewN | apply below_drew1) | exact HB.out)) hb); have n1_ := Aside0.mk (hbox); have n2_ := Aside0.mk ((by rw [hg]; exact (below_size (by repeat (first | (with_reducible first | exact HB.out | apply below_alloc | apply pw_below_drewN | apply below_drew1) | exact HB.out))) : w.heap.size ≤ gb134)); have n3_ := Aside0.mk ((by rw [hg]; exact (below_size (by repeat (first | (with_reducible first | exact HB.out | apply below_alloc | apply pw_below_drewN | apply below_drew1) | exact HB.out))) : w.heap.size ≤ gb134)); clear HB; have HB := n0_; have BK134 := n1_; have GW134 := n2_; have GE134 := n3_; clear n0_ n1_ n2_ n3_; clear hb hbox hg; have hcz9_0 : w8.cell? ⟨gb134, 0, none⟩ = some (.int .u64 a0_0) := (blk_cell BK134.out 0).trans rfl; have hcz9_1 : w8.cell? ⟨gb134, 1, none⟩ = some (.int .u64 a0_1) := (blk_cell BK134.out 1).trans rfl; have hfz9_0 := blk_frozen BK134.out 0; have hfz9_1 := blk_frozen BK134.out 1) | (go_at_call 57; (with_reducible refine (gold_Of.calls (IntKind.u64.wrap ((IntKind.u64.wrap ((IntKind.u64.wrap (a0_1 - (a0_0 / 4294967296))) - 4294967295)) + (IntKind.u64.wrap ((Go.bits .and .u64 a0_0 4294967295) * 4294967295)))) t136 _ A7.out).mono ?_); rintro e w' ⟨rfl, ⟨nd, rfl⟩⟩; (try first | exact ⟨rfl, _, World.drewN_drewN _ _ _⟩ | exact ⟨rfl, _, Eq.trans (World.drewN_drewN _ _ _) (congrArg (World.drewN _) (Nat.add_assoc _ _ _))⟩))))
      go_ret
      exact ⟨by first | rfl | (simp [errW_none, errW_some] <;> rfl) | (simp [*, errW_none, errW_some] <;> rfl), by repeat (first | (with_reducible first | exact HB.out | apply below_alloc | apply pw_below_drewN | apply below_drew1 | refine below_set ?_ GE134.out) | exact HB.out)⟩
  · rw [if_neg c2] at H
    have c2b0 : decide (a0_1 < (a0_0 / 4294967296)) = false := decide_eq_false c2
    clear c2
    by_cases c10 : (IntKind.u64.wrap ((IntKind.u64.wrap (a0_1 - (a0_0 / 4294967296))) + (IntKind.u64.wrap ((Go.bits .and .u64 a0_0 4294967295) * 4294967295)))) < (IntKind.u64.wrap ((Go.bits .and .u64 a0_0 4294967295) * 4294967295))
    · rw [if_pos c10] at H
      have c10b0 : decide ((IntKind.u64.wrap ((IntKind.u64.wrap (a0_1 - (a0_0 / 4294967296))) + (IntKind.u64.wrap ((Go.bits .and .u64 a0_0 4294967295) * 4294967295)))) < (IntKind.u64.wrap ((Go.bits .and .u64 a0_0 4294967295) * 4294967295))) = true := decide_eq_true c10
      clear c10
      replace H := Option.bind_eq_some_iff.mp H
      obtain ⟨t137, A110, H⟩ := H
      replace H : (some t137) = some r := H
      have A11 := Aside0.mk A110
      clear A110
      obtain rfl := Option.some.inj H
      go_enter Tryd.func72, Tryd.ntmps72
      go_wp2_with (first | ((with_reducible refine gate_dst (N := 1) rfl ?_); refine box_event ?hg (N := 1) ?hd (cs := #[.int .u64 a0_0, .int .u64 a0_1]) (t := 100) ?hr ?_; (case hd => rfl); (case hg => rfl); (case hr => first | (go_simp; done) | (go_simp; rfl)); intro gb134 hg w12 hbox hb; have n0_ := Aside0.mk (below_step (by repeat (first | (with_reducible first | exact HB.out | apply below_alloc | apply pw_below_drewN | apply below_drew1) | exact HB.out)) hb); have n1_ := Aside0.mk (hbox); have n2_ := Aside0.mk ((by rw [hg]; exact (below_size (by repeat (first | (with_reducible first | exact HB.out | apply below_alloc | apply pw_below_drewN | apply below_drew1) | exact HB.out))) : w.heap.size ≤ gb134)); have n3_ := Aside0.mk ((by rw [hg]; exact (below_size (by repeat (first | (with_reducible first | exact HB.out | apply below_alloc | apply pw_below_drewN | apply below_drew1) | exact HB.out))) : w.heap.size ≤ gb134)); clear HB; have HB := n0_; have BK134 := n1_; have GW134 := n2_; have GE134 := n3_; clear n0_ n1_ n2_ n3_; clear hb hbox hg; have hcz13_0 : w12.cell? ⟨gb134, 0, none⟩ = some (.int .u64 a0_0) := (blk_cell BK134.out 0).trans rfl; have hcz13_1 : w12.cell? ⟨gb134, 1, none⟩ = some (.int .u64 a0_1) := (blk_cell BK134.out 1).trans rfl; have hfz13_0 := blk_frozen BK134.out 0; have hfz13_1 := blk_frozen BK134.out 1) | (go_at_call 57; (with_reducible refine (gold_Of.calls (IntKind.u64.wrap ((IntKind.u64.wrap ((IntKind.u64.wrap (a0_1 - (a0_0 / 4294967296))) + (IntKind.u64.wrap ((Go.bits .and .u64 a0_0 4294967295) * 4294967295)))) + 4294967295)) t137 _ A11.out).mono ?_); rintro e w' ⟨rfl, ⟨nd, rfl⟩⟩; (try first | exact ⟨rfl, _, World.drewN_drewN _ _ _⟩ | exact ⟨rfl, _, Eq.trans (World.drewN_drewN _ _ _) (congrArg (World.drewN _) (Nat.add_assoc _ _ _))⟩)))
      repeat (go_quiet (first | ((with_reducible refine gate_dst (N := 1) rfl ?_); refine box_event ?hg (N := 1) ?hd (cs := #[.int .u64 a0_0, .int .u64 a0_1]) (t := 100) ?hr ?_; (case hd => rfl); (case hg => rfl); (case hr => first | (go_simp; done) | (go_simp; rfl)); intro gb134 hg w12 hbox hb; have n0_ := Aside0.mk (below_step (by repeat (first | (with_reducible first | exact HB.out | apply below_alloc | apply pw_below_drewN | apply below_drew1) | exact HB.out)) hb); have n1_ := Aside0.mk (hbox); have n2_ := Aside0.mk ((by rw [hg]; exact (below_size (by repeat (first | (with_reducible first | exact HB.out | apply below_alloc | apply pw_below_drewN | apply below_drew1) | exact HB.out))) : w.heap.size ≤ gb134)); have n3_ := Aside0.mk ((by rw [hg]; exact (below_size (by repeat (first | (with_reducible first | exact HB.out | apply below_alloc | apply pw_below_drewN | apply below_drew1) | exact HB.out))) : w.heap.size ≤ gb134)); clear HB; have HB := n0_; have BK134 := n1_; have GW134 := n2_; have GE134 := n3_; clear n0_ n1_ n2_ n3_; clear hb hbox hg; have hcz13_0 : w12.cell? ⟨gb134, 0, none⟩ = some (.int .u64 a0_0) := (blk_cell BK134.out 0).trans rfl; have hcz13_1 : w12.cell? ⟨gb134, 1, none⟩ = some (.int .u64 a0_1) := (blk_cell BK134.out 1).trans rfl; have hfz13_0 := blk_frozen BK134.out 0; have hfz13_1 := blk_frozen BK134.out 1) | (go_at_call 57; (with_reducible refine (gold_Of.calls (IntKind.u64.wrap ((IntKind.u64.wrap ((IntKind.u64.wrap (a0_1 - (a0_0 / 4294967296))) + (IntKind.u64.wrap ((Go.bits .and .u64 a0_0 4294967295) * 4294967295)))) + 4294967295)) t137 _ A11.out).mono ?_); rintro e w' ⟨rfl, ⟨nd, rfl⟩⟩; (try first | exact ⟨rfl, _, World.drewN_drewN _ _ _⟩ | exact ⟨rfl, _, Eq.trans (World.drewN_drewN _ _ _) (congrArg (World.drewN _) (Nat.add_assoc _ _ _))⟩))); try go_wp2_with (first | ((with_reducible refine gate_dst (N := 1) rfl ?_); refine box_event ?hg (N := 1) ?hd (cs := #[.int .u64 a0_0, .int .u64 a0_1]) (t := 100) ?hr ?_; (case hd => rfl); (case hg => rfl); (case hr => first | (go_simp; done) | (go_simp; rfl)); intro gb134 hg w12 hbox hb; have n0_ := Aside0.mk (below_step (by repeat (first | (with_reducible first | exact HB.out | apply below_alloc | apply pw_below_drewN | apply below_drew1) | exact HB.out)) hb); have n1_ := Aside0.mk (hbox); have n2_ := Aside0.mk ((by rw [hg]; exact (below_size (by repeat (first | (with_reducible first | exact HB.out | apply below_alloc | apply pw_below_drewN | apply below_drew1) | exact HB.out))) : w.heap.size ≤ gb134)); have n3_ := Aside0.mk ((by rw [hg]; exact (below_size (by repeat (first | (with_reducible first | exact HB.out | apply below_alloc | apply pw_below_drewN | apply below_drew1) | exact HB.out))) : w.heap.size ≤ gb134)); clear HB; have HB := n0_; have BK134 := n1_; have GW134 := n2_; have GE134 := n3_; clear n0_ n1_ n2_ n3_; clear hb hbox hg; have hcz13_0 : w12.cell? ⟨gb134, 0, none⟩ = some (.int .u64 a0_0) := (blk_cell BK134.out 0).trans rfl; have hcz13_1 : w12.cell? ⟨gb134, 1, none⟩ = some (.int .u64 a0_1) := (blk_cell BK134.out 1).trans rfl; have hfz13_0 := blk_frozen BK134.out 0; have hfz13_1 := blk_frozen BK134.out 1) | (go_at_call 57; (with_reducible refine (gold_Of.calls (IntKind.u64.wrap ((IntKind.u64.wrap ((IntKind.u64.wrap (a0_1 - (a0_0 / 4294967296))) + (IntKind.u64.wrap ((Go.bits .and .u64 a0_0 4294967295) * 4294967295)))) + 4294967295)) t137 _ A11.out).mono ?_); rintro e w' ⟨rfl, ⟨nd, rfl⟩⟩; (try first | exact ⟨rfl, _, World.drewN_drewN _ _ _⟩ | exact ⟨rfl, _, Eq.trans (World.drewN_drewN _ _ _) (congrArg (World.drewN _) (Nat.add_assoc _ _ _))⟩))))
      go_ret
      exact ⟨by first | rfl | (simp [errW_none, errW_some] <;> rfl) | (simp [*, errW_none, errW_some] <;> rfl), by repeat (first | (with_reducible first | exact HB.out | apply below_alloc | apply pw_below_drewN | apply below_drew1 | refine below_set ?_ GE134.out) | exact HB.out)⟩
    · rw [if_neg c10] at H
      have c10b0 : decide ((IntKind.u64.wrap ((IntKind.u64.wrap (a0_1 - (a0_0 / 4294967296))) + (IntKind.u64.wrap ((Go.bits .and .u64 a0_0 4294967295) * 4294967295)))) < (IntKind.u64.wrap ((Go.bits .and .u64 a0_0 4294967295) * 4294967295))) = false := decide_eq_false c10
      clear c10
      replace H := Option.bind_eq_some_iff.mp H
      obtain ⟨t138, A140, H⟩ := H
      replace H : (some t138) = some r := H
      have A14 := Aside0.mk A140
      clear A140
      obtain rfl := Option.some.inj H
      go_enter Tryd.func72, Tryd.ntmps72
      go_wp2_with (first | ((with_reducible refine gate_dst (N := 1) rfl ?_); refine box_event ?hg (N := 1) ?hd (cs := #[.int .u64 a0_0, .int .u64 a0_1]) (t := 100) ?hr ?_; (case hd => rfl); (case hg => rfl); (case hr => first | (go_simp; done) | (go_simp; rfl)); intro gb134 hg w15 hbox hb; have n0_ := Aside0.mk (below_step (by repeat (first | (with_reducible first | exact HB.out | apply below_alloc | apply pw_below_drewN | apply below_drew1) | exact HB.out)) hb); have n1_ := Aside0.mk (hbox); have n2_ := Aside0.mk ((by rw [hg]; exact (below_size (by repeat (first | (with_reducible first | exact HB.out | apply below_alloc | apply pw_below_drewN | apply below_drew1) | exact HB.out))) : w.heap.size ≤ gb134)); have n3_ := Aside0.mk ((by rw [hg]; exact (below_size (by repeat (first | (with_reducible first | exact HB.out | apply below_alloc | apply pw_below_drewN | apply below_drew1) | exact HB.out))) : w.heap.size ≤ gb134)); clear HB; have HB := n0_; have BK134 := n1_; have GW134 := n2_; have GE134 := n3_; clear n0_ n1_ n2_ n3_; clear hb hbox hg; have hcz16_0 : w15.cell? ⟨gb134, 0, none⟩ = some (.int .u64 a0_0) := (blk_cell BK134.out 0).trans rfl; have hcz16_1 : w15.cell? ⟨gb134, 1, none⟩ = some (.int .u64 a0_1) := (blk_cell BK134.out 1).trans rfl; have hfz16_0 := blk_frozen BK134.out 0; have hfz16_1 := blk_frozen BK134.out 1) | (go_at_call 57; (with_reducible refine (gold_Of.calls (IntKind.u64.wrap ((IntKind.u64.wrap (a0_1 - (a0_0 / 4294967296))) + (IntKind.u64.wrap ((Go.bits .and .u64 a0_0 4294967295) * 4294967295)))) t138 _ A14.out).mono ?_); rintro e w' ⟨rfl, ⟨nd, rfl⟩⟩; (try first | exact ⟨rfl, _, World.drewN_drewN _ _ _⟩ | exact ⟨rfl, _, Eq.trans (World.drewN_drewN _ _ _) (congrArg (World.drewN _) (Nat.add_assoc _ _ _))⟩)))
      repeat (go_quiet (first | ((with_reducible refine gate_dst (N := 1) rfl ?_); refine box_event ?hg (N := 1) ?hd (cs := #[.int .u64 a0_0, .int .u64 a0_1]) (t := 100) ?hr ?_; (case hd => rfl); (case hg => rfl); (case hr => first | (go_simp; done) | (go_simp; rfl)); intro gb134 hg w15 hbox hb; have n0_ := Aside0.mk (below_step (by repeat (first | (with_reducible first | exact HB.out | apply below_alloc | apply pw_below_drewN | apply below_drew1) | exact HB.out)) hb); have n1_ := Aside0.mk (hbox); have n2_ := Aside0.mk ((by rw [hg]; exact (below_size (by repeat (first | (with_reducible first | exact HB.out | apply below_alloc | apply pw_below_drewN | apply below_drew1) | exact HB.out))) : w.heap.size ≤ gb134)); have n3_ := Aside0.mk ((by rw [hg]; exact (below_size (by repeat (first | (with_reducible first | exact HB.out | apply below_alloc | apply pw_below_drewN | apply below_drew1) | exact HB.out))) : w.heap.size ≤ gb134)); clear HB; have HB := n0_; have BK134 := n1_; have GW134 := n2_; have GE134 := n3_; clear n0_ n1_ n2_ n3_; clear hb hbox hg; have hcz16_0 : w15.cell? ⟨gb134, 0, none⟩ = some (.int .u64 a0_0) := (blk_cell BK134.out 0).trans rfl; have hcz16_1 : w15.cell? ⟨gb134, 1, none⟩ = some (.int .u64 a0_1) := (blk_cell BK134.out 1).trans rfl; have hfz16_0 := blk_frozen BK134.out 0; have hfz16_1 := blk_frozen BK134.out 1) | (go_at_call 57; (with_reducible refine (gold_Of.calls (IntKind.u64.wrap ((IntKind.u64.wrap (a0_1 - (a0_0 / 4294967296))) + (IntKind.u64.wrap ((Go.bits .and .u64 a0_0 4294967295) * 4294967295)))) t138 _ A14.out).mono ?_); rintro e w' ⟨rfl, ⟨nd, rfl⟩⟩; (try first | exact ⟨rfl, _, World.drewN_drewN _ _ _⟩ | exact ⟨rfl, _, Eq.trans (World.drewN_drewN _ _ _) (congrArg (World.drewN _) (Nat.add_assoc _ _ _))⟩))); try go_wp2_with (first | ((with_reducible refine gate_dst (N := 1) rfl ?_); refine box_event ?hg (N := 1) ?hd (cs := #[.int .u64 a0_0, .int .u64 a0_1]) (t := 100) ?hr ?_; (case hd => rfl); (case hg => rfl); (case hr => first | (go_simp; done) | (go_simp; rfl)); intro gb134 hg w15 hbox hb; have n0_ := Aside0.mk (below_step (by repeat (first | (with_reducible first | exact HB.out | apply below_alloc | apply pw_below_drewN | apply below_drew1) | exact HB.out)) hb); have n1_ := Aside0.mk (hbox); have n2_ := Aside0.mk ((by rw [hg]; exact (below_size (by repeat (first | (with_reducible first | exact HB.out | apply below_alloc | apply pw_below_drewN | apply below_drew1) | exact HB.out))) : w.heap.size ≤ gb134)); have n3_ := Aside0.mk ((by rw [hg]; exact (below_size (by repeat (first | (with_reducible first | exact HB.out | apply below_alloc | apply pw_below_drewN | apply below_drew1) | exact HB.out))) : w.heap.size ≤ gb134)); clear HB; have HB := n0_; have BK134 := n1_; have GW134 := n2_; have GE134 := n3_; clear n0_ n1_ n2_ n3_; clear hb hbox hg; have hcz16_0 : w15.cell? ⟨gb134, 0, none⟩ = some (.int .u64 a0_0) := (blk_cell BK134.out 0).trans rfl; have hcz16_1 : w15.cell? ⟨gb134, 1, none⟩ = some (.int .u64 a0_1) := (blk_cell BK134.out 1).trans rfl; have hfz16_0 := blk_frozen BK134.out 0; have hfz16_1 := blk_frozen BK134.out 1) | (go_at_call 57; (with_reducible refine (gold_Of.calls (IntKind.u64.wrap ((IntKind.u64.wrap (a0_1 - (a0_0 / 4294967296))) + (IntKind.u64.wrap ((Go.bits .and .u64 a0_0 4294967295) * 4294967295)))) t138 _ A14.out).mono ?_); rintro e w' ⟨rfl, ⟨nd, rfl⟩⟩; (try first | exact ⟨rfl, _, World.drewN_drewN _ _ _⟩ | exact ⟨rfl, _, Eq.trans (World.drewN_drewN _ _ _) (congrArg (World.drewN _) (Nat.add_assoc _ _ _))⟩))))
      go_ret
      exact ⟨by first | rfl | (simp [errW_none, errW_some] <;> rfl) | (simp [*, errW_none, errW_some] <;> rfl), by repeat (first | (with_reducible first | exact HB.out | apply below_alloc | apply pw_below_drewN | apply below_drew1 | refine below_set ?_ GE134.out) | exact HB.out)⟩

/-! ### bits_Mul64: function 81 -/
def bits_Mul64.f (a0 : Int) (a1 : Int) : Option (Int × Int) := some (IntKind.u64.wrap ((IntKind.u64.wrap ((IntKind.u64.wrap ((a0 / 4294967296) * (a1 / 4294967296))) + ((IntKind.u64.wrap ((IntKind.u64.wrap ((a0 / 4294967296) * (Go.bits .and .u64 a1 4294967295))) + ((IntKind.u64.wrap ((Go.bits .and .u64 a0 4294967295) * (Go.bits .and .u64 a1 4294967295))) / 4294967296))) / 4294967296))) + ((IntKind.u64.wrap ((Go.bits .and .u64 (IntKind.u64.wrap ((IntKind.u64.wrap ((a0 / 4294967296) * (Go.bits .and .u64 a1 4294967295))) + ((IntKind.u64.wrap ((Go.bits .and .u64 a0 4294967295) * (Go.bits .and .u64 a1 4294967295))) / 4294967296))) 4294967295) + (IntKind.u64.wrap ((Go.bits .and .u64 a0 4294967295) * (a1 / 4294967296))))) / 4294967296)), IntKind.u64.wrap (a0 * a1))
set_option maxHeartbeats 8000000 in
set_option maxRecDepth 100000 in
theorem bits_Mul64.calls (a0 : Int) (a1 : Int) (r1 : Int) (r2 : Int) (w : World) (h : bits_Mul64.f a0 a1 = some (r1, r2)) :
    Calls Tryd.prog 81 #[.int .u64 a0, .int .u64 a1] w fun e w' => e = .returned (.tuple #[.int .u64 r1, .int .u64 r2]) ∧ Drawn0 w w' := by
  have H : (some (IntKind.u64.wrap ((IntKind.u64.wrap ((IntKind.u64.wrap ((a0 / 4294967296) * (a1 / 4294967296))) + ((IntKind.u64.wrap ((IntKind.u64.wrap ((a0 / 4294967296) * (Go.bits .and .u64 a1 4294967295))) + ((IntKind.u64.wrap ((Go.bits .and .u64 a0 4294967295) * (Go.bits .and .u64 a1 4294967295))) / 4294967296))) / 4294967296))) + ((IntKind.u64.wrap ((Go.bits .and .u64 (IntKind.u64.wrap ((IntKind.u64.wrap ((a0 / 4294967296) * (Go.bits .and .u64 a1 4294967295))) + ((IntKind.u64.wrap ((Go.bits .and .u64 a0 4294967295) * (Go.bits .and .u64 a1 4294967295))) / 4294967296))) 4294967295) + (IntKind.u64.wrap ((Go.bits .and .u64 a0 4294967295) * (a1 / 4294967296))))) / 4294967296)), IntKind.u64.wrap (a0 * a1))) = some (r1, r2) := h
  clear h
  simp only [Option.some.injEq, Prod.mk.injEq] at H
  obtain ⟨rfl, rfl⟩ := H
  go_enter Tryd.func81, Tryd.ntmps81
  go_wp2
  go_ret2
  exact ⟨by first | rfl | (simp; done) | (simp [*]; done), by repeat (first | exact Drawn0.refl _ | apply Drawn0.step)⟩

/-! ### wide_Mul: function 73 -/
def wide_Mul.f (a0 : Int) (a1 : Int) : Option (Int × Int) := (bits_Mul64.f a0 a1).bind fun bt140 => (some (bt140.1, bt140.2))
set_option maxHeartbeats 8000000 in
set_option maxRecDepth 100000 in
theorem wide_Mul.calls (a0 : Int) (a1 : Int) (r1 : Int) (r2 : Int) (w : World) (h : wide_Mul.f a0 a1 = some (r1, r2)) :
    Calls Tryd.prog 73 #[.int .u64 a0, .int .u64 a1] w fun e w' => e = .returned (.agg #[.int .u64 r1, .int .u64 r2]) ∧ Below w.heap.size w w' := by
  have hu100 := Tryd.underlying100
  have HB := Aside0.mk (Below.refl w.heap.size w)
  have H : ((bits_Mul64.f a0 a1).bind fun bt140 => (some (bt140.1, bt140.2))) = some (r1, r2) := h
  clear h
  replace H := Option.bind_eq_some_iff.mp H
  obtain ⟨⟨t140, t141⟩, A30, H⟩ := H
  replace H : (some (t140, t141)) = some (r1, r2) := H
  have A3 := Aside0.mk A30
  clear A30
  simp only [Option.some.injEq, Prod.mk.injEq] at H
  obtain ⟨rfl, rfl⟩ := H
  go_enter Tryd.func73, Tryd.ntmps73
  go_wp2_with (first | ((with_reducible refine gate_dst (N := 4) rfl ?_); refine box_event ?hg (N := 4) ?hd (cs := #[.int .u64 0, .int .u64 0]) (t := 100) ?hr ?_; (case hd => rfl); (case hg => rfl); (case hr => first | (go_simp; done) | (go_simp; rfl)); intro gb139 hg w4 hbox hb; have n0_ := Aside0.mk (below_step (by repeat (first | (with_reducible first | exact HB.out | apply below_alloc | apply pw_below_drewN | apply below_drew1) | exact HB.out)) hb); have n1_ := Aside0.mk (hbox); have n2_ := Aside0.mk ((by rw [hg]; exact (below_size (by repeat (first | (with_reducible first | exact HB.out | apply below_alloc | apply pw_below_drewN | apply below_drew1) | exact HB.out))) : w.heap.size ≤ gb139)); have n3_ := Aside0.mk ((by rw [hg]; exact (below_size (by repeat (first | (with_reducible first | exact HB.out | apply below_alloc | apply pw_below_drewN | apply below_drew1) | exact HB.out))) : w.heap.size ≤ gb139)); clear HB; have HB := n0_; have BK139 := n1_; have GW139 := n2_; have GE139 := n3_; clear n0_ n1_ n2_ n3_; clear hb hbox hg) | ((with_reducible refine gate_callee (f := 81) rfl ?_); refine goesL_ (some 10) rfl rfl Tryd.func81 (by kernel_rfl) rfl #[.int .u64 a0, .int .u64 a1] rfl (by (try simp only [List.map_toArray, List.map_cons, List.map_nil]); first | done | rfl | (simp only [List.length_drop, List.length_take]; rfl)) ?_; (with_reducible refine (bits_Mul64.calls a0 a1 t140 t141 _ A3.out).mono ?_); rintro e w' ⟨rfl, ⟨nd, rfl⟩⟩; refine ⟨_, rfl, ?_⟩; (try (rw [drewN_self w4]; generalize hq_ : World.drewN w4 _ = w4; have n0_ : Aside0 (w4.heap[gb139]? = some (.cells #[.int .u64 0, .int .u64 0] 100 (0, 0))) := ⟨by rw [← hq_]; exact (by (with_reducible repeat (first | refine blk_drewN ?_ _ | refine blk_drew ?_ | refine blk_alloc ?_ _)); exact BK139.out)⟩; have n1_ : Aside0 (Below w.heap.size w w4) := ⟨by rw [← hq_]; exact (by repeat (first | (with_reducible first | exact HB.out | apply below_alloc | apply pw_below_drewN | apply below_drew1 | refine below_set ?_ GE139.out) | exact HB.out))⟩; clear BK139 HB hq_; have BK139 := n0_; have HB := n1_; clear n0_ n1_)); have hcz5_0 : w4.cell? ⟨gb139, 0, none⟩ = some (.int .u64 0) := (blk_cell BK139.out 0).trans rfl; have hcz5_1 : w4.cell? ⟨gb139, 1, none⟩ = some (.int .u64 0) := (blk_cell BK139.out 1).trans rfl; have hfz5_0 := blk_frozen BK139.out 0; have hfz5_1 := blk_frozen BK139.out 1))
  refine bodyPost_ret (results_cell_row rfl _ _ gb139 100 #[.int .u64 t140, .int .u64 t141] (0, 0) _ rfl (by (with_reducible repeat (first | refine blk_drewN ?_ _ | refine blk_drew ?_ | refine blk_alloc ?_ _)); refine blk_put (cs := #[.int .u64 t140, .int .u64 0]) ?_ 1 _ rfl; (with_reducible repeat (first | refine blk_drewN ?_ _ | refine blk_drew ?_ | refine blk_alloc ?_ _)); refine blk_put (cs := #[.int .u64 0, .int .u64 0]) ?_ 0 _ rfl; (with_reducible repeat (first | refine blk_drewN ?_ _ | refine blk_drew ?_ | refine blk_alloc ?_ _)); exact BK139.out) Tryd.underlying100 rfl (by kernel_rfl)) rfl ?_
  exact ⟨by first | rfl | (simp [errW_none, errW_some] <;> rfl) | (simp [*, errW_none, errW_some] <;> rfl), by repeat (first | (with_reducible first | exact HB.out | apply below_alloc | apply pw_below_drewN | apply below_drew1 | refine below_set ?_ GE139.out) | exact HB.out)⟩

/-! ### gold_Mul: function 64 -/
def gold_Mul.f (a0 : Int) (a1 : Int) : Option (Int) := (wide_Mul.f a0 a1).bind fun bt142 => ((gold_Reduce.f bt142.1 bt142.2).bind fun t144 => (some t144))
set_option maxHeartbeats 8000000 in
set_option maxRecDepth 100000 in
theorem gold_Mul.calls (a0 : Int) (a1 : Int) (r : Int) (w : World) (h : gold_Mul.f a0 a1 = some r) :
    Calls Tryd.prog 64 #[.int .u64 a0, .int .u64 a1] w fun e w' => e = .returned (.int .u64 r) ∧ Below w.heap.size w w' := by
  have HB := Aside0.mk (Below.refl w.heap.size w)
  have H : ((wide_Mul.f a0 a1).bind fun bt142 => ((gold_Reduce.f bt142.1 bt142.2).bind fun t144 => (some t144))) = some r := h
  clear h
  replace H := Option.bind_eq_some_iff.mp H
  obtain ⟨⟨t142, t143⟩, A30, H⟩ := H
  replace H : ((gold_Reduce.f t142 t143).bind fun t144 => (some t144)) = some r := H
  have A3 := Aside0.mk A30
  clear A30
  replace H := Option.bind_eq_some_iff.mp H
  obtain ⟨t144, A40, H⟩ := H
  replace H : (some t144) = some r := H
  have A4 := Aside0.mk A40
  clear A40
  obtain rfl := Option.some.inj H
  go_enter Tryd.func64, Tryd.ntmps64
  go_wp2_with (first | ((with_reducible refine gate_callee (f := 73) rfl ?_); refine goesL_ (some 7) rfl rfl Tryd.func73 (by kernel_rfl) rfl #[.int .u64 a0, .int .u64 a1] rfl (by (try simp only [List.map_toArray, List.map_cons, List.map_nil]); first | done | rfl | (simp only [List.length_drop, List.length_take]; rfl)) ?_; (with_reducible refine (wide_Mul.calls a0 a1 t142 t143 _ A3.out).mono ?_); rintro e w5 ⟨rfl, hb⟩; refine ⟨_, rfl, ?_⟩; have n0_ := Aside0.mk (below_step (by repeat (first | (with_reducible first | exact HB.out | apply below_alloc | apply pw_below_drewN | apply below_drew1) | exact HB.out)) hb); clear HB; have HB := n0_; clear n0_; (try clear hb); (try clear hb2); (try clear hk); (try clear hi)) | ((with_reducible refine gate_callee (f := 72) rfl ?_); refine goesL_ (some 8) rfl rfl Tryd.func72 (by kernel_rfl) rfl #[.agg #[.int .u64 t142, .int .u64 t143]] rfl (by (try simp only [List.map_toArray, List.map_cons, List.map_nil]); first | done | rfl | (simp only [List.length_drop, List.length_take]; rfl)) ?_; (with_reducible refine (gold_Reduce.calls t142 t143 t144 _ A4.out).mono ?_); rintro e w6 ⟨rfl, hb⟩; refine ⟨_, rfl, ?_⟩; have n0_ := Aside0.mk (below_step (by repeat (first | (with_reducible first | exact HB.out | apply below_alloc | apply pw_below_drewN | apply below_drew1) | exact HB.out)) hb); clear HB; have HB := n0_; clear n0_; (try clear hb); (try clear hb2); (try clear hk); (try clear hi)))
  go_ret
  exact ⟨by first | rfl | (simp [errW_none, errW_some] <;> rfl) | (simp [*, errW_none, errW_some] <;> rfl), by repeat (first | (with_reducible first | exact HB.out | apply below_alloc | apply pw_below_drewN | apply below_drew1) | exact HB.out)⟩

/-! ### twid_Scale: function 66 -/
def twid_Scale.l0 : Nat → Int → List Int → List Int → Int → Int → Option (List Int)
  | 0, _, _, _, _, _ => none
  | k + 1, x1, x5, x11, x12, x13 => if x13 < x12 then (if 0 ≤ x13 then (if x13 < (x11.length : Int) then ((gold_Mul.f (rd x11 x13) x1).bind fun t149 => (if x13 < (x5.length : Int) then (twid_Scale.l0 k x1 (x5.set (x13 : Int).toNat t149) x11 x12 (wrap64 (x13 + 1))) else (none))) else (none)) else (none)) else (some x5)
def twid_Scale.f (k : Nat) (l0 : List Int) (a1 : Int) : Option (List Int) := if 0 ≤ (l0.length : Int) then (if ((l0.length : Int) : Int).toNat ≤ 35184372088832 then (twid_Scale.l0 k a1 (List.replicate ((l0.length : Int) : Int).toNat 0) l0 (l0.length : Int) 0) else (none)) else (none)
theorem twid_Scale.mono_l : ∀ k, (∀ y0 y1 y2 y3 y4, LeO (twid_Scale.l0 k y0 y1 y2 y3 y4) (twid_Scale.l0 (k + 1) y0 y1 y2 y3 y4))
  | 0 => fun _ _ _ _ _ r h => by simp [twid_Scale.l0] at h
  | k + 1 => by
    have ih0 := twid_Scale.mono_l k
    · intro y0 y1 y2 y3 y4
      unfold twid_Scale.l0
      repeat' first
      | (with_reducible exact ih0 _ _ _ _ _)
      | (with_reducible exact LeO.refl _)
      | (with_reducible exact LeO.none _)
      | (with_reducible refine LeO.ite ?_ ?_)
      | (with_reducible refine LeO.bind ?_ (fun _ => ?_))
      | exact ih0 _ _ _ _ _
      | exact LeO.none _
      | refine LeO.ite ?_ ?_
      | refine LeO.bind ?_ (fun _ => ?_)
theorem twid_Scale.mono : ∀ a0 a1 k, LeO (twid_Scale.f k a0 a1) (twid_Scale.f (k + 1) a0 a1) := by
  intro a0 a1 k
  have ih0 := twid_Scale.mono_l k
  unfold twid_Scale.f
  repeat' first
      | (with_reducible exact ih0 _ _ _ _ _)
      | (with_reducible exact LeO.refl _)
      | (with_reducible exact LeO.none _)
      | (with_reducible refine LeO.ite ?_ ?_)
      | (with_reducible refine LeO.bind ?_ (fun _ => ?_))
      | exact ih0 _ _ _ _ _
      | exact LeO.none _
      | refine LeO.ite ?_ ?_
      | refine LeO.bind ?_ (fun _ => ?_)
set_option maxHeartbeats 8000000 in
set_option maxRecDepth 100000 in
theorem twid_Scale.calls (k : Nat) (A0 : Option Addr) (c0 : Nat) (l0 : List Int) (a1 : Int) (r : List Int) (w : World) (hr0 : Kd.C (Kd.int .u64) w A0 l0.length l0) (hc0 : l0.length ≤ c0) (h : twid_Scale.f k l0 a1 = some r) :
    Calls Tryd.prog 66 #[.slice A0 l0.length c0, .int .u64 a1] w fun e w' => ∃ v0_ : Value, e = .returned (v0_) ∧ Kd.R (Kd.int .u64) 23 w' w.heap.size (fun _ => True) v0_ r ∧ Below w.heap.size w w' := by
  have HR0 := Aside0.mk hr0
  have HC0 := Aside0.mk hc0
  clear hr0 hc0
  have HB := Aside0.mk (Below.refl w.heap.size w)
  have H : (if 0 ≤ (l0.length : Int) then (if ((l0.length : Int) : Int).toNat ≤ 35184372088832 then (twid_Scale.l0 k a1 (List.replicate ((l0.length : Int) : Int).toNat 0) l0 (l0.length : Int) 0) else (none)) else (none)) = some r := h
  clear h
  by_cases c3 : 0 ≤ (l0.length : Int)
  · rw [if_pos c3] at H
    have c3b0 := eq_true c3
    have LTc3 := Aside0.mk (show (((l0.take (0 : Int).toNat).length : Int) = max 0 0) by rw [List.length_take]; omega)
    (try (have LDc3 := Aside0.mk (show ∀ lo_ : Nat, (((l0.take (0 : Int).toNat).drop lo_).length : Int) = (((0 : Int).toNat - lo_ : Nat) : Int) from fun lo_ => by rw [List.length_drop, List.length_take]; omega)))
    have c3b1 : decide (0 ≤ (l0.length : Int)) = true := decide_eq_true c3
    clear c3
    by_cases c4 : ((l0.length : Int) : Int).toNat ≤ 35184372088832
    · rw [if_pos c4] at H
      have c4b0 := eq_true c4
      have c4b1 : decide (((l0.length : Int) : Int).toNat ≤ 35184372088832) = true := decide_eq_true c4
      clear c4
      obtain ⟨y145, hy145⟩ : ∃ y_ : List Int, y_ = (List.replicate ((l0.length : Int) : Int).toNat 0) := ⟨_, rfl⟩
      replace H : (twid_Scale.l0 k a1 y145 l0 (l0.length : Int) 0) = some r := by first | (rw [hy145]; with_reducible exact H) | (have H2_ := (Option.bind_some _ _).symm.trans H; rw [hy145]; with_reducible exact H2_) | (have H2_ := (Option.bind_some _ _).symm.trans H; with_reducible exact H2_) | with_reducible exact H | (rw [hy145]; exact H) | exact H
      have Ny145 := Aside0.mk hy145
      clear hy145
      have H' := Aside0.mk H
      clear H
      go_enter Tryd.func66, Tryd.ntmps66
      go_wp2_with (first | ((with_reducible refine gate_dst (N := 10) rfl ?_); refine Kd.R_make (Kd.int .u64) _ 23 rfl (N := 10) rfl 22 _ _ rfl (l0.length : Int) rfl rfl Tryd.underlying22 (.int .u64 0) 8 info23 rfl (by decide) (by omega) 0 (ok := fun _ => True) (okp := fun _ => True) rfl (fun _ hk => hk) trivial (of_decide_eq_true (by first | (with_reducible assumption) | assumption)) (Nat.le_trans (Nat.mul_le_mul_right _ (of_decide_eq_true (by first | (with_reducible assumption) | assumption) : (l0.length : Int).toNat ≤ 35184372088832)) (by omega)) (Below.refl _ _) (Nat.le_refl _) ?_; intro v146 w5 ho6 hb hg_ hnew_; clear hg_ hnew_; (first | rw [← Ny145.out] at ho6 | (simp only [Int.reduceToNat] at ho6; rw [← Ny145.out] at ho6)); have n0_ := Aside0.mk (Kd.R_lower ho6 (below_size (by repeat (first | (with_reducible first | exact HB.out | apply below_alloc | apply pw_below_drewN | apply below_drew1) | exact HB.out)))); have n1_ := Aside0.mk (below_step (by repeat (first | (with_reducible first | exact HB.out | apply below_alloc | apply pw_below_drewN | apply below_drew1) | exact HB.out)) hb); clear HB; have HO147 := n0_; have HB := n1_; clear n0_ n1_; clear hb ho6))
      go_loopg [13] k (fun kq v13 w' => ∃ (x5_1 : List Int) (x13_1 : Int), v13 = .int .i64 x13_1 ∧ Aside0 (twid_Scale.l0 kq a1 x5_1 l0 (l0.length : Int) x13_1 = some r) ∧ Aside0 (kq ≤ k) ∧ Aside0 (Kd.R (Kd.int .u64) 23 w' w.heap.size (fun _ => True) v146 x5_1) ∧ Aside0 (Below w.heap.size w w'))
      case atStart => exact ⟨(y145), (0), (by first | rfl | (simp; done) | (simp [*]; done)), H', ⟨Nat.le_refl _⟩, ⟨by (with_reducible repeat (first | apply Kd.R_alloc | apply Kd.R_drewN | apply Kd.R_drew)); exact HO147.out⟩, ⟨by repeat (first | (with_reducible first | exact HB.out | apply below_alloc | apply pw_below_drewN | apply below_drew1) | exact HB.out)⟩⟩
      case round =>
        clear H'
        try clear p2
        try clear c3
        try clear c3b0
        try clear c3b1
        try clear c4
        try clear c4b0
        try clear c4b1
        try clear c6
        obtain ⟨x5_1, x13_1, rfl, HA, HK1, HO_5, HB⟩ := hrel
        cases gk with
        | zero => exact absurd HA.out (by simp [twid_Scale.l0])
        | succ k1 =>
          have H := HA.out
          clear HA
          simp only [twid_Scale.l0] at H
          by_cases c7 : x13_1 < (l0.length : Int)
          · rw [if_pos c7] at H
            have c7b0 : decide (x13_1 < (l0.length : Int)) = true := decide_eq_true c7
            (try (have c7b0_0 := c7b0; rw [LTc3.out] at c7b0_0))
            (try (have c7b0_0p := eq_true (of_decide_eq_true c7b0_0)))
            (try (have c7b0_1 := c7b0; rw [LDc3.out] at c7b0_1))
            (try (have c7b0_1p := eq_true (of_decide_eq_true c7b0_1)))
            clear c7
            by_cases c8 : 0 ≤ x13_1
            · rw [if_pos c8] at H
              have c8b0 : decide (0 ≤ x13_1) = true := decide_eq_true c8
              clear c8
              by_cases c9 : x13_1 < (l0.length : Int)
              · rw [if_pos c9] at H
                have c9b0 : decide (x13_1 < (l0.length : Int)) = true := decide_eq_true c9
                (try (have c9b0_0 := c9b0; rw [LTc3.out] at c9b0_0))
                (try (have c9b0_0p := eq_true (of_decide_eq_true c9b0_0)))
                (try (have c9b0_1 := c9b0; rw [LDc3.out] at c9b0_1))
                (try (have c9b0_1p := eq_true (of_decide_eq_true c9b0_1)))
                clear c9
                replace H := Option.bind_eq_some_iff.mp H
                obtain ⟨t149, A100, H⟩ := H
                replace H : (if x13_1 < (x5_1.length : Int) then (twid_Scale.l0 k1 a1 (x5_1.set (x13_1 : Int).toNat t149) l0 (l0.length : Int) (wrap64 (x13_1 + 1))) else (none)) = some r := H
                have A10 := Aside0.mk A100
                clear A100
                by_cases c11 : x13_1 < (x5_1.length : Int)
                · rw [if_pos c11] at H
                  have c11b0 : decide (x13_1 < (x5_1.length : Int)) = true := decide_eq_true c11
                  (try (have c11b0_0 := c11b0; rw [LTc3.out] at c11b0_0))
                  (try (have c11b0_0p := eq_true (of_decide_eq_true c11b0_0)))
                  (try (have c11b0_1 := c11b0; rw [LDc3.out] at c11b0_1))
                  (try (have c11b0_1p := eq_true (of_decide_eq_true c11b0_1)))
                  clear c11
                  obtain ⟨y150, hy150⟩ : ∃ y_ : List Int, y_ = (x5_1.set (x13_1 : Int).toNat t149) := ⟨_, rfl⟩
                  replace H : (twid_Scale.l0 k1 a1 y150 l0 (l0.length : Int) (wrap64 (x13_1 + 1))) = some r := by first | (rw [hy150]; with_reducible exact H) | (have H2_ := (Option.bind_some _ _).symm.trans H; rw [hy150]; with_reducible exact H2_) | (have H2_ := (Option.bind_some _ _).symm.trans H; with_reducible exact H2_) | with_reducible exact H | (rw [hy150]; exact H) | exact H
                  have Ny150 := Aside0.mk hy150
                  clear hy150
                  have H' := Aside0.mk H
                  clear H
                  have p148 : 0 ≤ (x13_1 : Int) := of_decide_eq_true (by first | (with_reducible assumption) | assumption)
                  have q148 : x13_1 < (l0.length : Int) := of_decide_eq_true (by first | (with_reducible assumption) | assumption)
                  obtain ⟨ad148, e148, hx148_0⟩ := Kd.at_int HR0.out x13_1 p148 q148
                  cases e148
                  replace hx148_0 := (HB.out.cell (World.block_lt_of_cell? w _ hx148_0)).trans hx148_0
                  replace p148 := eq_true p148
                  replace q148 := eq_true q148
                  go_wp2_with (first | ((with_reducible refine gate_callee (f := 64) rfl ?_); refine goesL_ (some 22) rfl rfl Tryd.func64 (by kernel_rfl) rfl #[.int .u64 (rd l0 x13_1), .int .u64 a1] rfl (by (try simp only [List.map_toArray, List.map_cons, List.map_nil]); first | done | rfl | (simp only [List.length_drop, List.length_take]; rfl)) ?_; (with_reducible refine (gold_Mul.calls (rd l0 x13_1) a1 t149 _ A10.out).mono ?_); rintro e w13 ⟨rfl, hb⟩; refine ⟨_, rfl, ?_⟩; have n0_ := Aside0.mk (Kd.R_below (by (with_reducible repeat (first | apply Kd.R_alloc | apply Kd.R_drewN | apply Kd.R_drew)); exact HO_5.out) hb); have n1_ := Aside0.mk (below_step (by repeat (first | (with_reducible first | exact HB.out | apply below_alloc | apply pw_below_drewN | apply below_drew1) | exact HB.out)) hb); clear HO_5; clear HB; have HO_5 := n0_; have HB := n1_; clear n0_ n1_; (try clear hb); (try clear hb2); (try clear hk); (try clear hi); have p12 : 0 ≤ (x13_1 : Int) := of_decide_eq_true (by first | (with_reducible assumption) | assumption); have q12 : (x13_1 : Int) < ((x5_1.length : Int) : Int) := of_decide_eq_true (by first | (with_reducible assumption) | assumption); obtain ⟨go12, co12, eo12, gb12, gl12, cl12, HG12⟩ := Kd.R_form HO_5.out (by omega); (first | cases eo12 | (injection eo12 with ea_ en_ ec_; (first | subst ea_ | (injection ea_ with ea_; subst ea_)); subst ec_; clear en_)); have GB12 := Aside0.mk gb12; have GG12 := Aside0.mk HG12; clear gb12 gl12 HG12; obtain ⟨hx12_0, hf12_0⟩ := Kd.R_celln 0 HO_5.out (x13_1 : Int) p12 q12; replace p12 := eq_true p12; replace q12 := eq_true q12; obtain ⟨hy14_, hz14_⟩ := Kd.R_celln 0 HO_5.out (x13_1 : Int) (of_decide_eq_true (by first | (with_reducible assumption) | assumption)) (of_decide_eq_true (by first | (with_reducible assumption) | assumption)); have HP14 := Kd.R_putg HO_5.out (x13_1 : Int) t149) | ((with_reducible refine gate_store (t := 23) (p := 23) rfl ?_); refine store_event (t := 23) (p := 23) (v := ?vo_w15) (w1 := (w13.setCell ⟨go12, (x13_1 : Int).toNat, none⟩ (.int .u64 t149))) ?hg ?ho ?hn ?hr ?_; (case ho => rfl); (case hg => rfl); (case hn => rfl); (case hr => first | (go_simp; done) | (go_simp; rfl)); intro w15 hw; have hg : w13.grownBy w15 (some go12) := (by rw [hw]; exact HP14.2); have hp_ : Kd.R (Kd.int .u64) 23 w15 w.heap.size (fun _ => True) (.slice (some ⟨go12, 0, none⟩) x5_1.length co12) y150 := (by rw [hw, Ny150.out]; exact HP14.1); clear HP14; have n0_ := Aside0.mk (hp_); have n1_ := Aside0.mk ((by rw [hw]; exact below_set (HB.out) GB12.out : Below w.heap.size w w15)); clear HO_5; clear HB; have HO_5 := n0_; have HB := n1_; clear n0_ n1_; clear hg hw hp_))
                  (first | go_roundg k1 | (simp only [add_plain] at *; go_roundg k1))
                  case measure => have := HK1.out; omega
                  case rel => exact ⟨(y150), (wrap64 (x13_1 + 1)), (by first | rfl | (simp; done) | (simp [*]; done)), H', ⟨by have := HK1.out; omega⟩, ⟨by (with_reducible repeat (first | apply Kd.R_alloc | apply Kd.R_drewN | apply Kd.R_drew)); exact HO_5.out⟩, ⟨by repeat (first | (with_reducible first | exact HB.out | apply below_alloc | apply pw_below_drewN | apply below_drew1) | exact HB.out)⟩⟩
                · rw [if_neg c11] at H
                  exact absurd H (by simp)
              · rw [if_neg c9] at H
                exact absurd H (by simp)
            · rw [if_neg c8] at H
              exact absurd H (by simp)
          · rw [if_neg c7] at H
            have c7b0 : decide (x13_1 < (l0.length : Int)) = false := decide_eq_false c7
            (try (have c7b0_0 := c7b0; rw [LTc3.out] at c7b0_0))
            (try (have c7b0_1 := c7b0; rw [LDc3.out] at c7b0_1))
            clear c7
            obtain rfl := Option.some.inj H
            go_wp2
            go_ret
            exact ⟨_, by first | rfl | (simp [errW_none, errW_some] <;> rfl) | (simp [*, errW_none, errW_some] <;> rfl), by (with_reducible repeat (first | apply Kd.R_alloc | apply Kd.R_drewN | apply Kd.R_drew)); exact HO_5.out, by repeat (first | (with_reducible first | exact HB.out | apply below_alloc | apply pw_below_drewN | apply below_drew1) | exact HB.out)⟩
    · rw [if_neg c4] at H
      exact absurd H (by simp)
  · rw [if_neg c3] at H
    exact absurd H (by simp)

/-! ### kern2_Kernel_K: function 74 (by hand) -/
theorem hk_kern2_K.calls (b2 : Nat) (x0 x1 x2 : Value) (k : Int) (w : World) (hX : w.heap[b2]? = some (.cells #[x0, x1, x2, .int .i64 k] 111 (0, 0))) :
    Calls Tryd.prog 74 #[.pointer (some ⟨b2, 0, none⟩)] w fun e w' => e = .returned (.int .i64 k) ∧ Drawn0 w w' := by
  have hc := hk_blk_cell hX 3 _ rfl
  clear hX
  go_enter Tryd.func74, Tryd.ntmps74
  go_wp2
  go_ret
  exact ⟨rfl, by repeat (first | exact Drawn0.refl _ | apply Drawn0.step)⟩

-- NOT PRINTED: function 82 (kern4_pass_quarter_1)

/-! ### bits_Add64: function 93 (the model's own entry) -/
def bits_Add64.f (a0 : Int) (a1 : Int) (a2 : Int) : Option (Int × Int) := if 0 ≤ a0 then (if 0 ≤ a1 then (if 0 ≤ a2 then (if a2 ≤ 1 then (some ((a0 + a1 + a2) % 18446744073709551616, (a0 + a1 + a2) / 18446744073709551616)) else none) else none) else none) else none
theorem bits_Add64.run (a0 : Int) (a1 : Int) (a2 : Int) (r1 : Int) (r2 : Int) (w : World) (h : bits_Add64.f a0 a1 a2 = some (r1, r2)) :
    (callFunc 93 #[.int .u64 a0, .int .u64 a1, .int .u64 a2]).run Tryd.prog w = .ok (.value (.tuple #[.int .u64 r1, .int .u64 r2])) w := by
  unfold bits_Add64.f at h
  by_cases h0 : 0 ≤ a0
  · by_cases h1 : 0 ≤ a1
    · by_cases h2 : 0 ≤ a2
      · by_cases h3 : a2 ≤ 1
        · rw [if_pos h0, if_pos h1, if_pos h2, if_pos h3] at h
          simp only [Option.some.injEq, Prod.mk.injEq] at h
          obtain ⟨rfl, rfl⟩ := h
          rw [run_callFunc_extern Tryd.func93 (by kernel_rfl) (by kernel_rfl) (by kernel_rfl) (e := add64Entry) (by kernel_rfl), run_add64 a0 a1 a2 h0 h1 h2 h3]
          rfl
        · rw [if_pos h0, if_pos h1, if_pos h2, if_neg h3] at h; cases h
      · rw [if_pos h0, if_pos h1, if_neg h2] at h; cases h
    · rw [if_pos h0, if_neg h1] at h; cases h
  · rw [if_neg h0] at h; cases h

/-! ### wide_Add: function 90 -/
def wide_Add.f (a0_0 : Int) (a0_1 : Int) (a1_0 : Int) (a1_1 : Int) : Option (Int × Int × Int) := (bits_Add64.f a0_1 a1_1 0).bind fun bt154 => ((bits_Add64.f a0_0 a1_0 bt154.2).bind fun bt156 => (some (bt156.1, bt154.1, bt156.2)))
set_option maxHeartbeats 8000000 in
set_option maxRecDepth 100000 in
theorem wide_Add.calls (a0_0 : Int) (a0_1 : Int) (a1_0 : Int) (a1_1 : Int) (r1 : Int) (r2 : Int) (r3 : Int) (w : World) (h : wide_Add.f a0_0 a0_1 a1_0 a1_1 = some (r1, r2, r3)) :
    Calls Tryd.prog 90 #[.agg #[.int .u64 a0_0, .int .u64 a0_1], .agg #[.int .u64 a1_0, .int .u64 a1_1]] w fun e w' => e = .returned (.tuple #[.agg #[.int .u64 r1, .int .u64 r2], .int .u64 r3]) ∧ Below w.heap.size w w' := by
  have hu100 := Tryd.underlying100
  have HB := Aside0.mk (Below.refl w.heap.size w)
  have H : ((bits_Add64.f a0_1 a1_1 0).bind fun bt154 => ((bits_Add64.f a0_0 a1_0 bt154.2).bind fun bt156 => (some (bt156.1, bt154.1, bt156.2)))) = some (r1, r2, r3) := h
  clear h
  replace H := Option.bind_eq_some_iff.mp H
  obtain ⟨⟨t154, t155⟩, A30, H⟩ := H
  replace H : ((bits_Add64.f a0_0 a1_0 t155).bind fun bt156 => (some (bt156.1, t154, bt156.2))) = some (r1, r2, r3) := H
  have A3 := Aside0.mk A30
  clear A30
  replace H := Option.bind_eq_some_iff.mp H
  obtain ⟨⟨t156, t157⟩, A40, H⟩ := H
  replace H : (some (t156, t154, t157)) = some (r1, r2, r3) := H
  have A4 := Aside0.mk A40
  clear A40
  simp only [Option.some.injEq, Prod.mk.injEq] at H
  obtain ⟨rfl, rfl, rfl⟩ := H
  go_enter Tryd.func90, Tryd.ntmps90
  go_wp2_with (first | ((with_reducible refine gate_dst (N := 2) rfl ?_); refine box_event ?hg (N := 2) ?hd (cs := #[.int .u64 a0_0, .int .u64 a0_1]) (t := 100) ?hr ?_; (case hd => rfl); (case hg => rfl); (case hr => first | (go_simp; done) | (go_simp; rfl)); intro gb151 hg w5 hbox hb; have n0_ := Aside0.mk (below_step (by repeat (first | (with_reducible first | exact HB.out | apply below_alloc | apply pw_below_drewN | apply below_drew1) | exact HB.out)) hb); have n1_ := Aside0.mk (hbox); have n2_ := Aside0.mk ((by rw [hg]; exact (below_size (by repeat (first | (with_reducible first | exact HB.out | apply below_alloc | apply pw_below_drewN | apply below_drew1) | exact HB.out))) : w.heap.size ≤ gb151)); have n3_ := Aside0.mk ((by rw [hg]; exact (below_size (by repeat (first | (with_reducible first | exact HB.out | apply below_alloc | apply pw_below_drewN | apply below_drew1) | exact HB.out))) : w.heap.size ≤ gb151)); clear HB; have HB := n0_; have BK151 := n1_; have GW151 := n2_; have GE151 := n3_; clear n0_ n1_ n2_ n3_; clear hb hbox hg) | ((with_reducible refine gate_dst (N := 3) rfl ?_); refine box_event ?hg (N := 3) ?hd (cs := #[.int .u64 a1_0, .int .u64 a1_1]) (t := 100) ?hr ?_; (case hd => rfl); (case hg => rfl); (case hr => first | (go_simp; done) | (go_simp; rfl)); intro gb152 hg w6 hbox hb; have n0_ := Aside0.mk (blk_below (g := gb151) (o := .cells #[.int .u64 a0_0, .int .u64 a0_1] 100 (0, 0)) (by (with_reducible repeat (first | refine blk_drewN ?_ _ | refine blk_drew ?_ | refine blk_alloc ?_ _)); exact BK151.out) hb); have n1_ := Aside0.mk (below_step (by repeat (first | (with_reducible first | exact HB.out | apply below_alloc | apply pw_below_drewN | apply below_drew1 | refine below_set ?_ GE151.out) | exact HB.out)) hb); have n2_ := Aside0.mk (hbox); have n3_ := Aside0.mk ((by rw [hg]; exact (below_size (by repeat (first | (with_reducible first | exact HB.out | apply below_alloc | apply pw_below_drewN | apply below_drew1 | refine below_set ?_ GE151.out) | exact HB.out))) : w.heap.size ≤ gb152)); have n4_ := Aside0.mk ((by rw [hg]; exact (below_size (by repeat (first | (with_reducible first | exact HB.out | apply below_alloc | apply pw_below_drewN | apply below_drew1 | refine below_set ?_ GE151.out) | exact HB.out))) : w.heap.size ≤ gb152)); have n5_ := Aside0.mk ((by rw [hg]; exact Nat.ne_of_lt (blk_lt (g := gb151) (o := .cells #[.int .u64 a0_0, .int .u64 a0_1] 100 (0, 0)) (by (with_reducible repeat (first | refine blk_drewN ?_ _ | refine blk_drew ?_ | refine blk_alloc ?_ _)); exact BK151.out)) : gb151 ≠ gb152)); have n6_ := Aside0.mk ((by rw [hg]; exact Nat.ne_of_gt (blk_lt (g := gb151) (o := .cells #[.int .u64 a0_0, .int .u64 a0_1] 100 (0, 0)) (by (with_reducible repeat (first | refine blk_drewN ?_ _ | refine blk_drew ?_ | refine blk_alloc ?_ _)); exact BK151.out)) : gb152 ≠ gb151)); clear BK151; clear HB; have BK151 := n0_; have HB := n1_; have BK152 := n2_; have GW152 := n3_; have GE152 := n4_; have NB151_152 := n5_; have NB152_151 := n6_; clear n0_ n1_ n2_ n3_ n4_ n5_ n6_; clear hb hbox hg) | ((with_reducible refine gate_dst (N := 4) rfl ?_); refine box_event ?hg (N := 4) ?hd (cs := #[.int .u64 0, .int .u64 0]) (t := 100) ?hr ?_; (case hd => rfl); (case hg => rfl); (case hr => first | (go_simp; done) | (go_simp; rfl)); intro gb153 hg w7 hbox hb; have n0_ := Aside0.mk (blk_below (g := gb151) (o := .cells #[.int .u64 a0_0, .int .u64 a0_1] 100 (0, 0)) (by (with_reducible repeat (first | refine blk_drewN ?_ _ | refine blk_drew ?_ | refine blk_alloc ?_ _)); exact BK151.out) hb); have n1_ := Aside0.mk (blk_below (g := gb152) (o := .cells #[.int .u64 a1_0, .int .u64 a1_1] 100 (0, 0)) (by (with_reducible repeat (first | refine blk_drewN ?_ _ | refine blk_drew ?_ | refine blk_alloc ?_ _)); exact BK152.out) hb); have n2_ := Aside0.mk (below_step (by repeat (first | (with_reducible first | exact HB.out | apply below_alloc | apply pw_below_drewN | apply below_drew1 | refine below_set ?_ GE151.out | refine below_set ?_ GE152.out) | exact HB.out)) hb); have n3_ := Aside0.mk (hbox); have n4_ := Aside0.mk ((by rw [hg]; exact (below_size (by repeat (first | (with_reducible first | exact HB.out | apply below_alloc | apply pw_below_drewN | apply below_drew1 | refine below_set ?_ GE151.out | refine below_set ?_ GE152.out) | exact HB.out))) : w.heap.size ≤ gb153)); have n5_ := Aside0.mk ((by rw [hg]; exact (below_size (by repeat (first | (with_reducible first | exact HB.out | apply below_alloc | apply pw_below_drewN | apply below_drew1 | refine below_set ?_ GE151.out | refine below_set ?_ GE152.out) | exact HB.out))) : w.heap.size ≤ gb153)); have n6_ := Aside0.mk ((by rw [hg]; exact Nat.ne_of_lt (blk_lt (g := gb151) (o := .cells #[.int .u64 a0_0, .int .u64 a0_1] 100 (0, 0)) (by (with_reducible repeat (first | refine blk_drewN ?_ _ | refine blk_drew ?_ | refine blk_alloc ?_ _)); exact BK151.out)) : gb151 ≠ gb153)); have n7_ := Aside0.mk ((by rw [hg]; exact Nat.ne_of_gt (blk_lt (g := gb151) (o := .cells #[.int .u64 a0_0, .int .u64 a0_1] 100 (0, 0)) (by (with_reducible repeat (first | refine blk_drewN ?_ _ | refine blk_drew ?_ | refine blk_alloc ?_ _)); exact BK151.out)) : gb153 ≠ gb151)); have n8_ := Aside0.mk ((by rw [hg]; exact Nat.ne_of_lt (blk_lt (g := gb152) (o := .cells #[.int .u64 a1_0, .int .u64 a1_1] 100 (0, 0)) (by (with_reducible repeat (first | refine blk_drewN ?_ _ | refine blk_drew ?_ | refine blk_alloc ?_ _)); exact BK152.out)) : gb152 ≠ gb153)); have n9_ := Aside0.mk ((by rw [hg]; exact Nat.ne_of_gt (blk_lt (g := gb152) (o := .cells #[.int .u64 a1_0, .int .u64 a1_1] 100 (0, 0)) (by (with_reducible repeat (first | refine blk_drewN ?_ _ | refine blk_drew ?_ | refine blk_alloc ?_ _)); exact BK152.out)) : gb153 ≠ gb152)); clear BK151; clear BK152; clear HB; have BK151 := n0_; have BK152 := n1_; have HB := n2_; have BK153 := n3_; have GW153 := n4_; have GE153 := n5_; have NB151_153 := n6_; have NB153_151 := n7_; have NB152_153 := n8_; have NB153_152 := n9_; clear n0_ n1_ n2_ n3_ n4_ n5_ n6_ n7_ n8_ n9_; clear hb hbox hg; have hnb8 := NB151_152.out; have hnc8 := NB152_151.out; have hnb9 := NB151_153.out; have hnc9 := NB153_151.out; have hcz10_0 : w7.cell? ⟨gb151, 0, none⟩ = some (.int .u64 a0_0) := (blk_cell BK151.out 0).trans rfl; have hcz10_1 : w7.cell? ⟨gb151, 1, none⟩ = some (.int .u64 a0_1) := (blk_cell BK151.out 1).trans rfl; have hfz10_0 := blk_frozen BK151.out 0; have hfz10_1 := blk_frozen BK151.out 1; have hnb11 := NB152_153.out; have hnc11 := NB153_152.out; have hcz12_0 : w7.cell? ⟨gb152, 0, none⟩ = some (.int .u64 a1_0) := (blk_cell BK152.out 0).trans rfl; have hcz12_1 : w7.cell? ⟨gb152, 1, none⟩ = some (.int .u64 a1_1) := (blk_cell BK152.out 1).trans rfl; have hfz12_0 := blk_frozen BK152.out 0; have hfz12_1 := blk_frozen BK152.out 1) | (simp only [bits_Add64.run a0_1 a1_1 0 t154 t155 _ A3.out]; (try (rw [drewN_self w7]; generalize hq_ : World.drewN w7 _ = w7; have n0_ : Aside0 (w7.heap[gb151]? = some (.cells #[.int .u64 a0_0, .int .u64 a0_1] 100 (0, 0))) := ⟨by rw [← hq_]; exact (by (with_reducible repeat (first | refine blk_drewN ?_ _ | refine blk_drew ?_ | refine blk_alloc ?_ _)); exact BK151.out)⟩; have n1_ : Aside0 (w7.heap[gb152]? = some (.cells #[.int .u64 a1_0, .int .u64 a1_1] 100 (0, 0))) := ⟨by rw [← hq_]; exact (by (with_reducible repeat (first | refine blk_drewN ?_ _ | refine blk_drew ?_ | refine blk_alloc ?_ _)); exact BK152.out)⟩; have n2_ : Aside0 (w7.heap[gb153]? = some (.cells #[.int .u64 0, .int .u64 0] 100 (0, 0))) := ⟨by rw [← hq_]; exact (by (with_reducible repeat (first | refine blk_drewN ?_ _ | refine blk_drew ?_ | refine blk_alloc ?_ _)); exact BK153.out)⟩; have n3_ : Aside0 (Below w.heap.size w w7) := ⟨by rw [← hq_]; exact (by repeat (first | (with_reducible first | exact HB.out | apply below_alloc | apply pw_below_drewN | apply below_drew1 | refine below_set ?_ GE151.out | refine below_set ?_ GE152.out | refine below_set ?_ GE153.out) | exact HB.out))⟩; clear BK151 BK152 BK153 HB hq_; have BK151 := n0_; have BK152 := n1_; have BK153 := n2_; have HB := n3_; clear n0_ n1_ n2_ n3_)); have hcz13_0 : w7.cell? ⟨gb153, 0, none⟩ = some (.int .u64 0) := (blk_cell BK153.out 0).trans rfl; have hcz13_1 : w7.cell? ⟨gb153, 1, none⟩ = some (.int .u64 0) := (blk_cell BK153.out 1).trans rfl; have hfz13_0 := blk_frozen BK153.out 0; have hfz13_1 := blk_frozen BK153.out 1) | (simp only [bits_Add64.run a0_0 a1_0 t155 t156 t157 _ A4.out]))
  refine bodyPost_ret (results_ct rfl _ _ gb153 100 #[.int .u64 t156, .int .u64 t154] (0, 0) _ rfl (by (with_reducible repeat (first | refine blk_drewN ?_ _ | refine blk_drew ?_ | refine blk_alloc ?_ _)); refine blk_put (cs := #[.int .u64 t156, .int .u64 t154]) ?_ 1 _ rfl; (with_reducible repeat (first | refine blk_drewN ?_ _ | refine blk_drew ?_ | refine blk_alloc ?_ _)); refine blk_put (cs := #[.int .u64 t156, .int .u64 t154]) ?_ 0 _ rfl; (with_reducible repeat (first | refine blk_drewN ?_ _ | refine blk_drew ?_ | refine blk_alloc ?_ _)); refine blk_put (cs := #[.int .u64 0, .int .u64 t154]) ?_ 0 _ rfl; (with_reducible repeat (first | refine blk_drewN ?_ _ | refine blk_drew ?_ | refine blk_alloc ?_ _)); refine blk_put (cs := #[.int .u64 0, .int .u64 0]) ?_ 1 _ rfl; (with_reducible repeat (first | refine blk_drewN ?_ _ | refine blk_drew ?_ | refine blk_alloc ?_ _)); exact BK153.out) Tryd.underlying100 rfl (by kernel_rfl)) rfl ?_
  exact ⟨by first | rfl | (simp [errW_none, errW_some] <;> rfl) | (simp [*, errW_none, errW_some] <;> rfl), by repeat (first | (with_reducible first | exact HB.out | apply below_alloc | apply pw_below_drewN | apply below_drew1 | refine below_set ?_ GE151.out | refine below_set ?_ GE152.out | refine below_set ?_ GE153.out) | exact HB.out)⟩

/-! ### gold_Add: function 84 -/
def gold_Add.f (a0 : Int) (a1 : Int) : Option (Int) := (gold_Of.f a0).bind fun t158 => ((gold_Of.f a1).bind fun t159 => ((wide_Add.f 0 t158 0 t159).bind fun bt160 => ((gold_Reduce.f bt160.1 bt160.2.1).bind fun t164 => (some t164))))
set_option maxHeartbeats 8000000 in
set_option maxRecDepth 100000 in
theorem gold_Add.calls (a0 : Int) (a1 : Int) (r : Int) (w : World) (h : gold_Add.f a0 a1 = some r) :
    Calls Tryd.prog 84 #[.int .u64 a0, .int .u64 a1] w fun e w' => e = .returned (.int .u64 r) ∧ Below w.heap.size w w' := by
  have hu100 := Tryd.underlying100
  have HB := Aside0.mk (Below.refl w.heap.size w)
  have H : ((gold_Of.f a0).bind fun t158 => ((gold_Of.f a1).bind fun t159 => ((wide_Add.f 0 t158 0 t159).bind fun bt160 => ((gold_Reduce.f bt160.1 bt160.2.1).bind fun t164 => (some t164))))) = some r := h
  clear h
  replace H := Option.bind_eq_some_iff.mp H
  obtain ⟨t158, A30, H⟩ := H
  replace H : ((gold_Of.f a1).bind fun t159 => ((wide_Add.f 0 t158 0 t159).bind fun bt160 => ((gold_Reduce.f bt160.1 bt160.2.1).bind fun t164 => (some t164)))) = some r := H
  have A3 := Aside0.mk A30
  clear A30
  replace H := Option.bind_eq_some_iff.mp H
  obtain ⟨t159, A40, H⟩ := H
  replace H : ((wide_Add.f 0 t158 0 t159).bind fun bt160 => ((gold_Reduce.f bt160.1 bt160.2.1).bind fun t164 => (some t164))) = some r := H
  have A4 := Aside0.mk A40
  clear A40
  replace H := Option.bind_eq_some_iff.mp H
  obtain ⟨⟨t160, t161, t162⟩, A50, H⟩ := H
  replace H : ((gold_Reduce.f t160 t161).bind fun t164 => (some t164)) = some r := H
  have A5 := Aside0.mk A50
  clear A50
  replace H := Option.bind_eq_some_iff.mp H
  obtain ⟨t164, A60, H⟩ := H
  replace H : (some t164) = some r := H
  have A6 := Aside0.mk A60
  clear A60
  obtain rfl := Option.some.inj H
  go_enter Tryd.func84, Tryd.ntmps84
  go_wp2_with (first | ((with_reducible refine gate_callee (f := 57) rfl ?_); refine goesL_ (some 9) rfl rfl Tryd.func57 (by kernel_rfl) rfl #[.int .u64 a0] rfl (by (try simp only [List.map_toArray, List.map_cons, List.map_nil]); first | done | rfl | (simp only [List.length_drop, List.length_take]; rfl)) ?_; (with_reducible refine (gold_Of.calls a0 t158 _ A3.out).mono ?_); rintro e w' ⟨rfl, ⟨nd, rfl⟩⟩; refine ⟨_, rfl, ?_⟩) | ((with_reducible refine gate_callee (f := 57) rfl ?_); refine goesL_ (some 12) rfl rfl Tryd.func57 (by kernel_rfl) rfl #[.int .u64 a1] rfl (by (try simp only [List.map_toArray, List.map_cons, List.map_nil]); first | done | rfl | (simp only [List.length_drop, List.length_take]; rfl)) ?_; (with_reducible refine (gold_Of.calls a1 t159 _ A4.out).mono ?_); rintro e w' ⟨rfl, ⟨nd, rfl⟩⟩; refine ⟨_, rfl, ?_⟩) | ((with_reducible refine gate_callee (f := 90) rfl ?_); refine goesL_ (some 14) rfl rfl Tryd.func90 (by kernel_rfl) rfl #[.agg #[.int .u64 0, .int .u64 t158], .agg #[.int .u64 0, .int .u64 t159]] rfl (by (try simp only [List.map_toArray, List.map_cons, List.map_nil]); first | done | rfl | (simp only [List.length_drop, List.length_take]; rfl)) ?_; (with_reducible refine (wide_Add.calls 0 t158 0 t159 t160 t161 t162 _ A5.out).mono ?_); rintro e w7 ⟨rfl, hb⟩; refine ⟨_, rfl, ?_⟩; have n0_ := Aside0.mk (below_step (by repeat (first | (with_reducible first | exact HB.out | apply below_alloc | apply pw_below_drewN | apply below_drew1) | exact HB.out)) hb); clear HB; have HB := n0_; clear n0_; (try clear hb); (try clear hb2); (try clear hk); (try clear hi)) | ((with_reducible refine gate_dst (N := 5) rfl ?_); refine box_event ?hg (N := 5) ?hd (cs := #[.int .u64 0, .int .u64 0]) (t := 100) ?hr ?_; (case hd => rfl); (case hg => rfl); (case hr => first | (go_simp; done) | (go_simp; rfl)); intro gb163 hg w8 hbox hb; have n0_ := Aside0.mk (below_step (by repeat (first | (with_reducible first | exact HB.out | apply below_alloc | apply pw_below_drewN | apply below_drew1) | exact HB.out)) hb); have n1_ := Aside0.mk (hbox); have n2_ := Aside0.mk ((by rw [hg]; exact (below_size (by repeat (first | (with_reducible first | exact HB.out | apply below_alloc | apply pw_below_drewN | apply below_drew1) | exact HB.out))) : w.heap.size ≤ gb163)); have n3_ := Aside0.mk ((by rw [hg]; exact (below_size (by repeat (first | (with_reducible first | exact HB.out | apply below_alloc | apply pw_below_drewN | apply below_drew1) | exact HB.out))) : w.heap.size ≤ gb163)); clear HB; have HB := n0_; have BK163 := n1_; have GW163 := n2_; have GE163 := n3_; clear n0_ n1_ n2_ n3_; clear hb hbox hg; have hcz9_0 : w8.cell? ⟨gb163, 0, none⟩ = some (.int .u64 0) := (blk_cell BK163.out 0).trans rfl; have hcz9_1 : w8.cell? ⟨gb163, 1, none⟩ = some (.int .u64 0) := (blk_cell BK163.out 1).trans rfl; have hfz9_0 := blk_frozen BK163.out 0; have hfz9_1 := blk_frozen BK163.out 1) | ((with_reducible refine gate_callee (f := 72) rfl ?_); refine goesL_ (some 18) rfl rfl Tryd.func72 (by kernel_rfl) rfl #[.agg #[.int .u64 t160, .int .u64 t161]] rfl (by (try simp only [List.map_toArray, List.map_cons, List.map_nil]); first | done | rfl | (simp only [List.length_drop, List.length_take]; rfl)) ?_; (with_reducible refine (gold_Reduce.calls t160 t161 t164 _ A6.out).mono ?_); rintro e w10 ⟨rfl, hb⟩; refine ⟨_, rfl, ?_⟩; have n0_ := Aside0.mk (blk_below (g := gb163) (o := .cells #[.int .u64 t160, .int .u64 t161] 100 (0, 0)) (by (with_reducible repeat (first | refine blk_drewN ?_ _ | refine blk_drew ?_ | refine blk_alloc ?_ _)); refine blk_put (cs := #[.int .u64 t160, .int .u64 0]) ?_ 1 _ rfl; (with_reducible repeat (first | refine blk_drewN ?_ _ | refine blk_drew ?_ | refine blk_alloc ?_ _)); refine blk_put (cs := #[.int .u64 0, .int .u64 0]) ?_ 0 _ rfl; (with_reducible repeat (first | refine blk_drewN ?_ _ | refine blk_drew ?_ | refine blk_alloc ?_ _)); exact BK163.out) hb); have n1_ := Aside0.mk (below_step (by repeat (first | (with_reducible first | exact HB.out | apply below_alloc | apply pw_below_drewN | apply below_drew1 | refine below_set ?_ GE163.out) | exact HB.out)) hb); clear BK163; clear HB; have BK163 := n0_; have HB := n1_; clear n0_ n1_; (try clear hb); (try clear hb2); (try clear hk); (try clear hi)))
  go_ret
  exact ⟨by first | rfl | (simp [errW_none, errW_some] <;> rfl) | (simp [*, errW_none, errW_some] <;> rfl), by repeat (first | (with_reducible first | exact HB.out | apply below_alloc | apply pw_below_drewN | apply below_drew1 | refine below_set ?_ GE163.out) | exact HB.out)⟩

/-! ### gold_Neg: function 78 -/
def gold_Neg.f (a0 : Int) : Option (Int) := (gold_Of.f a0).bind fun t165 => (if t165 = 0 then (some 0) else (some (IntKind.u64.wrap (18446744069414584321 - t165))))
set_option maxHeartbeats 8000000 in
set_option maxRecDepth 100000 in
theorem gold_Neg.calls (a0 : Int) (r : Int) (w : World) (h : gold_Neg.f a0 = some r) :
    Calls Tryd.prog 78 #[.int .u64 a0] w fun e w' => e = .returned (.int .u64 r) ∧ Drawn0 w w' := by
  have H : ((gold_Of.f a0).bind fun t165 => (if t165 = 0 then (some 0) else (some (IntKind.u64.wrap (18446744069414584321 - t165))))) = some r := h
  clear h
  replace H := Option.bind_eq_some_iff.mp H
  obtain ⟨t165, A20, H⟩ := H
  replace H : (if t165 = 0 then (some 0) else (some (IntKind.u64.wrap (18446744069414584321 - t165)))) = some r := H
  have A2 := Aside0.mk A20
  clear A20
  by_cases c3 : t165 = 0
  · rw [if_pos c3] at H
    have c3b0 : (t165 == 0) = true := beq_iff_eq.mpr c3
    have c3b1 : (t165 != 0) = false := bne_eq_false_iff_eq.mpr c3
    clear c3
    obtain rfl := Option.some.inj H
    go_enter Tryd.func78, Tryd.ntmps78
    go_wp2_with (first | ((with_reducible refine gate_callee (f := 57) rfl ?_); refine goesL_ (some 4) rfl rfl Tryd.func57 (by kernel_rfl) rfl #[.int .u64 a0] rfl (by (try simp only [List.map_toArray, List.map_cons, List.map_nil]); first | done | rfl | (simp only [List.length_drop, List.length_take]; rfl)) ?_; (with_reducible refine (gold_Of.calls a0 t165 _ A2.out).mono ?_); rintro e w' ⟨rfl, ⟨nd, rfl⟩⟩; refine ⟨_, rfl, ?_⟩))
    go_ret
    exact ⟨by first | rfl | (simp; done) | (simp [*]; done), by repeat (first | exact Drawn0.refl _ | apply Drawn0.step)⟩
  · rw [if_neg c3] at H
    have c3b0 : (t165 == 0) = false := beq_eq_false_iff_ne.mpr c3
    have c3b1 : (t165 != 0) = true := bne_iff_ne.mpr c3
    obtain rfl := Option.some.inj H
    go_enter Tryd.func78, Tryd.ntmps78
    go_wp2_with (first | ((with_reducible refine gate_callee (f := 57) rfl ?_); refine goesL_ (some 4) rfl rfl Tryd.func57 (by kernel_rfl) rfl #[.int .u64 a0] rfl (by (try simp only [List.map_toArray, List.map_cons, List.map_nil]); first | done | rfl | (simp only [List.length_drop, List.length_take]; rfl)) ?_; (with_reducible refine (gold_Of.calls a0 t165 _ A2.out).mono ?_); rintro e w' ⟨rfl, ⟨nd, rfl⟩⟩; refine ⟨_, rfl, ?_⟩))
    go_ret
    exact ⟨by first | rfl | (simp; done) | (simp [*]; done), by repeat (first | exact Drawn0.refl _ | apply Drawn0.step)⟩

/-! ### gold_Sub: function 85 -/
def gold_Sub.f (a0 : Int) (a1 : Int) : Option (Int) := (gold_Neg.f a1).bind fun t166 => ((gold_Add.f a0 t166).bind fun t167 => (some t167))
set_option maxHeartbeats 8000000 in
set_option maxRecDepth 100000 in
theorem gold_Sub.calls (a0 : Int) (a1 : Int) (r : Int) (w : World) (h : gold_Sub.f a0 a1 = some r) :
    Calls Tryd.prog 85 #[.int .u64 a0, .int .u64 a1] w fun e w' => e = .returned (.int .u64 r) ∧ Below w.heap.size w w' := by
  have HB := Aside0.mk (Below.refl w.heap.size w)
  have H : ((gold_Neg.f a1).bind fun t166 => ((gold_Add.f a0 t166).bind fun t167 => (some t167))) = some r := h
  clear h
  replace H := Option.bind_eq_some_iff.mp H
  obtain ⟨t166, A30, H⟩ := H
  replace H : ((gold_Add.f a0 t166).bind fun t167 => (some t167)) = some r := H
  have A3 := Aside0.mk A30
  clear A30
  replace H := Option.bind_eq_some_iff.mp H
  obtain ⟨t167, A40, H⟩ := H
  replace H : (some t167) = some r := H
  have A4 := Aside0.mk A40
  clear A40
  obtain rfl := Option.some.inj H
  go_enter Tryd.func85, Tryd.ntmps85
  go_wp2_with (first | ((with_reducible refine gate_callee (f := 78) rfl ?_); refine goesL_ (some 7) rfl rfl Tryd.func78 (by kernel_rfl) rfl #[.int .u64 a1] rfl (by (try simp only [List.map_toArray, List.map_cons, List.map_nil]); first | done | rfl | (simp only [List.length_drop, List.length_take]; rfl)) ?_; (with_reducible refine (gold_Neg.calls a1 t166 _ A3.out).mono ?_); rintro e w' ⟨rfl, ⟨nd, rfl⟩⟩; refine ⟨_, rfl, ?_⟩) | ((with_reducible refine gate_callee (f := 84) rfl ?_); refine goesL_ (some 8) rfl rfl Tryd.func84 (by kernel_rfl) rfl #[.int .u64 a0, .int .u64 t166] rfl (by (try simp only [List.map_toArray, List.map_cons, List.map_nil]); first | done | rfl | (simp only [List.length_drop, List.length_take]; rfl)) ?_; (with_reducible refine (gold_Add.calls a0 t166 t167 _ A4.out).mono ?_); rintro e w5 ⟨rfl, hb⟩; refine ⟨_, rfl, ?_⟩; have n0_ := Aside0.mk (below_step (by repeat (first | (with_reducible first | exact HB.out | apply below_alloc | apply pw_below_drewN | apply below_drew1) | exact HB.out)) hb); clear HB; have HB := n0_; clear n0_; (try clear hb); (try clear hb2); (try clear hk); (try clear hi)))
  go_ret
  exact ⟨by first | rfl | (simp [errW_none, errW_some] <;> rfl) | (simp [*, errW_none, errW_some] <;> rfl), by repeat (first | (with_reducible first | exact HB.out | apply below_alloc | apply pw_below_drewN | apply below_drew1) | exact HB.out)⟩

theorem hk_wn {z : Nat} (h : z ≤ 1048576) : IntKind.i64.wrap (z : Int) = (z : Int) := by rw [i64_w]; unfold wrap64; omega
/-- What stands while a pass goes on: the pass, the source's row, and blocks that nobody writes. -/
structure hk_QE (w0 w : World) (gp gs gd : Nat) (P : Option Addr) (np cp cS cD : Nat) (u : Int) (src : List Int) (ex : List (Nat × Obj)) (W : World) : Prop where
  hB : Below w0.heap.size w0 W
  hK : Kept w W (fun j => j = gp ∨ j = gd)
  hX : W.heap[gp]? = some (.cells #[.slice P np cp, .int .u64 u, .slice (some ⟨gs, 0, none⟩) src.length cS, .slice (some ⟨gd, 0, none⟩) src.length cD] 105 (0, 0))
  hS : Kd.R (Kd.int .u64) 23 W w0.heap.size (fun j => j = gs) (.slice (some ⟨gs, 0, none⟩) src.length cS) src
  hE : ∀ p, p ∈ ex → W.heap[p.1]? = some p.2 ∧ p.1 ≠ gd
  ne : w0.heap.size ≤ gd ∧ gp ≠ gd ∧ gs ≠ gd
section
variable {w0 w : World} {gp gs gd : Nat} {P : Option Addr} {np cp cS cD : Nat} {u : Int} {src : List Int} {ex : List (Nat × Obj)} {W W' : World}
theorem hk_QE.below (h : hk_QE w0 w gp gs gd P np cp cS cD u src ex W) (hb : Below W.heap.size W W') : hk_QE w0 w gp gs gd P np cp cS cD u src ex W' :=
  ⟨h.hB.trans (hb.mono h.hB.size), h.hK.below hb, (hb.block _ (blk_lt h.hX)).trans h.hX, Kd.R_below h.hS hb, fun p hp => ⟨(hb.block _ (blk_lt (h.hE p hp).1)).trans (h.hE p hp).1, (h.hE p hp).2⟩, h.ne⟩
theorem hk_QE.set (h : hk_QE w0 w gp gs gd P np cp cS cD u src ex W) (j : Nat) (v : Value) : hk_QE w0 w gp gs gd P np cp cS cD u src ex (W.setCell ⟨gd, j, none⟩ v) := by
  obtain ⟨n0, n1, n2⟩ := h.ne
  refine ⟨below_set h.hB n0, h.hK.setCell (p := ⟨gd, j, none⟩) (.inl (.inr rfl)) v, ?_, Kd.R_far h.hS (p := ⟨gd, j, none⟩) (fun k hk => by subst hk; exact n2) v, fun p hp => ⟨?_, (h.hE p hp).2⟩, h.ne⟩
  · exact (Below.heap_setCell W ⟨gd, j, none⟩ v gp n1).trans h.hX
  · exact (Below.heap_setCell W ⟨gd, j, none⟩ v p.1 (h.hE p hp).2).trans (h.hE p hp).1
theorem hk_QE.drewN (h : hk_QE w0 w gp gs gd P np cp cS cD u src ex W) (m : Nat) : hk_QE w0 w gp gs gd P np cp cS cD u src ex (W.drewN m) := h.below (pw_below_drewN (Below.refl _ _) m)
theorem hk_QE.add (h : hk_QE w0 w gp gs gd P np cp cS cD u src ex W) {b : Nat} {o : Obj} (hb : W.heap[b]? = some o) (hne : b ≠ gd) : hk_QE w0 w gp gs gd P np cp cS cD u src ((b, o) :: ex) W :=
  ⟨h.hB, h.hK, h.hX, h.hS, fun p hp => by
    rcases List.mem_cons.1 hp with rfl | hp
    · exact ⟨hb, hne⟩
    · exact h.hE p hp, h.ne⟩
theorem hk_QE.sub (h : hk_QE w0 w gp gs gd P np cp cS cD u src ex W) {ex' : List (Nat × Obj)} (hs : ∀ p, p ∈ ex' → p ∈ ex) : hk_QE w0 w gp gs gd P np cp cS cD u src ex' W :=
  ⟨h.hB, h.hK, h.hX, h.hS, fun p hp => h.hE p (hs p hp), h.ne⟩
theorem hk_QE.alloc (h : hk_QE w0 w gp gs gd P np cp cS cD u src ex W) (hd : gd < W.heap.size) (cs : Array Value) (t : TypeId) : hk_QE w0 w gp gs gd P np cp cS cD u src ((W.heap.size, .cells cs t (0, 0)) :: ex) (W.alloc (.cells cs t)) :=
  (h.below (below_alloc (Below.refl _ _) _)).add (show (W.heap.push _)[W.heap.size]? = _ from Array.getElem?_push_size) (by omega)
theorem hk_QE.cell (h : hk_QE w0 w gp gs gd P np cp cS cD u src ex W) {b : Nat} {cs : Array Value} {t : TypeId} (hm : (b, Obj.cells cs t (0, 0)) ∈ ex) (i : Nat) (v : Value) (hv : cs[i]? = some v) : W.cell? ⟨b, i, none⟩ = some v := hk_blk_cell (h.hE _ hm).1 i v hv
end
theorem hk_QE.swap {w0 w : World} {gp gs gd : Nat} {P : Option Addr} {np cp cS cD : Nat} {u : Int} {src x : List Int} {ex : List (Nat × Obj)} {W : World} (h : hk_QE w0 w gp gs gd P np cp cS cD u src ex W) (hgp : w0.heap.size ≤ gp)
    (hD : Kd.R (Kd.int .u64) 23 W w0.heap.size (fun j => j = gd) (.slice (some ⟨gd, 0, none⟩) src.length cD) x) :
    Below w0.heap.size w0 ((W.setCell ⟨gp, 2, none⟩ (.slice (some ⟨gd, 0, none⟩) src.length cD)).setCell ⟨gp, 3, none⟩ (.slice (some ⟨gs, 0, none⟩) src.length cS)).drew ∧ Kept w ((W.setCell ⟨gp, 2, none⟩ (.slice (some ⟨gd, 0, none⟩) src.length cD)).setCell ⟨gp, 3, none⟩ (.slice (some ⟨gs, 0, none⟩) src.length cS)).drew (fun j => j = gp ∨ j = gd) ∧
      ((W.setCell ⟨gp, 2, none⟩ (.slice (some ⟨gd, 0, none⟩) src.length cD)).setCell ⟨gp, 3, none⟩ (.slice (some ⟨gs, 0, none⟩) src.length cS)).drew.heap[gp]? = some (.cells #[.slice P np cp, .int .u64 u, .slice (some ⟨gd, 0, none⟩) src.length cD, .slice (some ⟨gs, 0, none⟩) src.length cS] 105 (0, 0)) ∧
      Kd.R (Kd.int .u64) 23 ((W.setCell ⟨gp, 2, none⟩ (.slice (some ⟨gd, 0, none⟩) src.length cD)).setCell ⟨gp, 3, none⟩ (.slice (some ⟨gs, 0, none⟩) src.length cS)).drew w0.heap.size (fun j => j = gd) (.slice (some ⟨gd, 0, none⟩) src.length cD) x := by
  refine ⟨(below_set (below_set h.hB hgp) hgp).drew, ((h.hK.setCell (p := ⟨gp, 2, none⟩) (.inl (.inl rfl)) _).setCell (p := ⟨gp, 3, none⟩) (.inl (.inl rfl)) _).drew, ?_, ?_⟩
  · exact blk_put (blk_put h.hX 2 (.slice (some ⟨gd, 0, none⟩) src.length cD) rfl) 3 (.slice (some ⟨gs, 0, none⟩) src.length cS) rfl
  · exact Kd.R_drew (Kd.R_far (Kd.R_far hD (p := ⟨gp, 2, none⟩) (fun k hk => by subst hk; exact Ne.symm h.ne.2.1) _) (p := ⟨gp, 3, none⟩) (fun k hk => by subst hk; exact Ne.symm h.ne.2.1) _)
theorem hk_QE.drew {w0 w : World} {gp gs gd : Nat} {P : Option Addr} {np cp cS cD : Nat} {u : Int} {src : List Int} {ex : List (Nat × Obj)} {W : World} (h : hk_QE w0 w gp gs gd P np cp cS cD u src ex W) : hk_QE w0 w gp gs gd P np cp cS cD u src ex W.drew := h.below (below_drew (Below.refl _ _))
theorem hk_wdiv {a b : Nat} (h : a ≤ 1048576) : IntKind.i64.wrap ((a : Int).tdiv (b : Int)) = ((a / b : Nat) : Int) := by
  have e0 : (a : Int).tdiv (b : Int) = ((a / b : Nat) : Int) := by rw [Int.tdiv_eq_ediv_of_nonneg (by omega)]; exact (Int.natCast_ediv _ _).symm
  rw [e0, hk_wn (Nat.le_trans (Nat.div_le_self _ _) h)]
/-- A kernel by quarters stands: its blocks lie between lo and hi. -/
def hk_K4 (k : Nat) (t0 t1 : List Int) (u0 u1 s : Int) (lo hi b : Nat) (W : World) : Prop :=
  (lo ≤ b ∧ b < hi) ∧ ∃ (b2 : Nat) (v0 v1 x0 x1 x2 : Value), (lo ≤ b2 ∧ b2 < hi) ∧ W.heap[b]? = some (.cells #[.pointer (some ⟨b2, 0, none⟩), v0, v1, .int .u64 u0, .int .u64 u1, .int .u64 s] 93 (0, 0)) ∧ W.heap[b2]? = some (.cells #[x0, x1, x2, .int .i64 (k : Int)] 111 (0, 0)) ∧
    Kd.R (Kd.int .u64) 23 W lo (fun j => j < hi) v0 t0 ∧ Kd.R (Kd.int .u64) 23 W lo (fun j => j < hi) v1 t1
section
variable {k : Nat} {t0 t1 : List Int} {u0 u1 s : Int} {lo hi b : Nat} {W W2 : World} {S : Nat → Prop}
theorem hk_K4.kept (h : hk_K4 k t0 t1 u0 u1 s lo hi b W) (hk : Kept W W2 S) (hS : ∀ j, S j → j < lo ∨ hi ≤ j) : hk_K4 k t0 t1 u0 u1 s lo hi b W2 := by
  obtain ⟨⟨h0, h1⟩, b2, v0, v1, x0, x1, x2, h2, hX, hX2, hR0, hR1⟩ := h
  have no : ∀ j, lo ≤ j → j < hi → ¬ S j := fun j hl hj hs => by have := hS j hs; omega
  exact ⟨⟨h0, h1⟩, b2, v0, v1, x0, x1, x2, h2, blk_kept hX hk (no b h0 h1), blk_kept hX2 hk (no b2 h2.1 h2.2), Kd.R_mono (Kd.R_kept (Kd.R_bound hR0) hk (fun j hj => no j hj.2.1 hj.1)) (fun j hj => hj.1), Kd.R_mono (Kd.R_kept (Kd.R_bound hR1) hk (fun j hj => no j hj.2.1 hj.1)) (fun j hj => hj.1)⟩
theorem hk_K4.below (h : hk_K4 k t0 t1 u0 u1 s lo hi b W) (hb : Below W.heap.size W W2) : hk_K4 k t0 t1 u0 u1 s lo hi b W2 :=
  h.kept (Kept.of_below hb (fun _ => False)) (fun _ hf => hf.elim)
end
theorem hk_K4.inner {k : Nat} {t0 t1 : List Int} {u0 u1 s : Int} {lo hi b : Nat} {W : World} (h : hk_K4 k t0 t1 u0 u1 s lo hi b W) : ∃ (b2 : Nat) (x0 x1 x2 : Value), W.cell? ⟨b, 0, none⟩ = some (.pointer (some ⟨b2, 0, none⟩)) ∧ W.heap[b2]? = some (.cells #[x0, x1, x2, .int .i64 (k : Int)] 111 (0, 0)) := by
  obtain ⟨_, b2, v0, v1, x0, x1, x2, _, hX, hX2, _, _⟩ := h
  exact ⟨b2, x0, x1, x2, hk_blk_cell hX 0 _ rfl, hX2⟩
/-! ### kern4_Cross: function 83 (by hand) -/
set_option maxHeartbeats 8000000 in
set_option maxRecDepth 100000 in
theorem kern4_Cross.calls (a b c d u s t v q m y0 y1 y2 y3 : Int) (w : World) (h1 : gold_Add.f a c = some s) (h2 : gold_Sub.f a c = some t) (h3 : gold_Add.f b d = some v) (h4: gold_Sub.f b d = some q) (h5 : gold_Mul.f u q = some m) (h6 : gold_Add.f s v = some y0) (h7 : gold_Add.f t m = some y1) (h8 : gold_Sub.f s v = some y2) (h9 : gold_Sub.f t m = some y3) :
    Calls Tryd.prog 83 #[.int .u64 a, .int .u64 b, .int .u64 c, .int .u64 d, .int .u64 u] w fun e w' => e = .returned (.agg #[.int .u64 y0, .int .u64 y1, .int .u64 y2, .int .u64 y3]) ∧ Below w.heap.size w w' := by
  have A1 := Aside0.mk h1
  have A2 := Aside0.mk h2
  have A3 := Aside0.mk h3
  have A4 := Aside0.mk h4
  have A5 := Aside0.mk h5
  have A6 := Aside0.mk h6
  have A7 := Aside0.mk h7
  have A8 := Aside0.mk h8
  have A9 := Aside0.mk h9
  clear h1 h2 h3 h4 h5 h6 h7 h8 h9
  go_enter Tryd.func83, Tryd.ntmps83
  go_wp2_with fail
  have BK := Aside0.mk (show (w.alloc (.cells #[.int .u64 0, .int .u64 0, .int .u64 0, .int .u64 0] 118)).heap[w.heap.size]? = some (.cells #[.int .u64 0, .int .u64 0, .int .u64 0, .int .u64 0] 118 (0,0)) from Array.getElem?_push_size)
  have HB := Aside0.mk ((Below.refl w.heap.size w).alloc (Nat.le_refl _) (.cells #[.int .u64 0, .int .u64 0, .int .u64 0, .int .u64 0] 118))
  have BZ := Aside0.mk (show w.heap.size < (w.alloc (.cells #[.int .u64 0, .int .u64 0, .int .u64 0, .int .u64 0] 118)).heap.size by simp)
  obtain ⟨bb, hbb⟩ : ∃ b, b = w.heap.size := ⟨_, rfl⟩
  rw [← hbb] at BK BZ ⊢
  have Hb := Aside0.mk hbb
  clear hbb
  generalize w.alloc (.cells #[.int .u64 0, .int .u64 0, .int .u64 0, .int .u64 0] 118) = W1 at BK HB BZ ⊢
  go_wp2_with (first | (go_at_call 84; (first | (with_reducible refine (gold_Add.calls a c s _ A1.out).mono ?_) | (with_reducible refine (gold_Add.calls b d v _ A3.out).mono ?_) | (with_reducible refine (gold_Add.calls s v y0 _ A6.out).mono ?_) | (with_reducible refine (gold_Add.calls t m y1 _ A7.out).mono ?_)); rintro e w1 ⟨rfl, hb1⟩; have n0_ := Aside0.mk ((hb1.block _ BZ.out).trans BK.out); have n1_ := Aside0.mk (HB.out.trans (hb1.mono HB.out.size)); have n2_ := Aside0.mk (Nat.lt_of_lt_of_le BZ.out hb1.size); clear BK HB BZ hb1; have BK := n0_; have HB := n1_; have BZ := n2_; clear n0_ n1_ n2_) | (go_at_call 85; (first | (with_reducible refine (gold_Sub.calls a c t _ A2.out).mono ?_) | (with_reducible refine (gold_Sub.calls b d q _ A4.out).mono ?_) | (with_reducible refine (gold_Sub.calls s v y2 _ A8.out).mono ?_)); rintro e w1 ⟨rfl, hb1⟩; have n0_ := Aside0.mk ((hb1.block _ BZ.out).trans BK.out); have n1_ := Aside0.mk (HB.out.trans (hb1.mono HB.out.size)); have n2_ := Aside0.mk (Nat.lt_of_lt_of_le BZ.out hb1.size); clear BK HB BZ hb1; have BK := n0_; have HB := n1_; have BZ := n2_; clear n0_ n1_ n2_) | (go_at_call 85; (with_reducible refine (gold_Sub.calls t m y3 _ A9.out).mono ?_); rintro e w1 ⟨rfl, hb1⟩; have n0_ := Aside0.mk ((hb1.block _ BZ.out).trans BK.out); have n1_ := Aside0.mk (HB.out.trans (hb1.mono HB.out.size)); have n2_ := Aside0.mk (Nat.lt_of_lt_of_le BZ.out hb1.size); clear BK HB BZ hb1; have BK := n0_; have HB := n1_; have BZ := n2_; clear n0_ n1_ n2_; have hc0 := hk_blk_cell BK.out 0 _ rfl; have hc1 := hk_blk_cell BK.out 1 _ rfl; have hc2 := hk_blk_cell BK.out 2 _ rfl; have hc3 := hk_blk_cell BK.out 3 _ rfl; have hf0 := hk_blk_frozen BK.out 0; have hf1 := hk_blk_frozen BK.out 1; have hf2 := hk_blk_frozen BK.out 2; have hf3 := hk_blk_frozen BK.out 3) | (go_at_call 64; (with_reducible refine (gold_Mul.calls u q m _ A5.out).mono ?_); rintro e w1 ⟨rfl, hb1⟩; have n0_ := Aside0.mk ((hb1.block _ BZ.out).trans BK.out); have n1_ := Aside0.mk (HB.out.trans (hb1.mono HB.out.size)); have n2_ := Aside0.mk (Nat.lt_of_lt_of_le BZ.out hb1.size); clear BK HB BZ hb1; have BK := n0_; have HB := n1_; have BZ := n2_; clear n0_ n1_ n2_))
  clear hc0 hc1 hc2 hc3 hf0 hf1 hf2 hf3
  have X := blk_put (blk_put (blk_put (blk_put BK.out 0 (.int .u64 y0) rfl) 1 (.int .u64 y1) rfl) 2 (.int .u64 y2) rfl) 3 (.int .u64 y3) rfl
  have hge : w.heap.size ≤ bb := by rw [Hb.out]; exact Nat.le_refl _
  refine bodyPost_ret (results_cell_row rfl _ _ bb 118 #[.int .u64 y0, .int .u64 y1, .int .u64 y2, .int .u64 y3] (0, 0) _ rfl X Tryd.underlying118 rfl (by kernel_rfl)) rfl ?_
  exact ⟨rfl, below_set (below_set (below_set (below_set HB.out hge) hge) hge) hge⟩
def hk_crossO (a b c d u : Int) : Option (Int × Int × Int × Int) := (gold_Add.f a c).bind fun s => (gold_Sub.f a c).bind fun t => (gold_Add.f b d).bind fun v => (gold_Sub.f b d).bind fun q => (gold_Mul.f u q).bind fun m => (gold_Add.f s v).bind fun y0 => (gold_Add.f t m).bind fun y1 => (gold_Sub.f s v).bind fun y2 => (gold_Sub.f t m).bind fun y3 => some (y0, y1, y2, y3)
theorem kern4_Cross.callsO (a b c d u y0 y1 y2 y3 : Int) (w : World) (h : hk_crossO a b c d u = some (y0, y1, y2, y3)) :
    Calls Tryd.prog 83 #[.int .u64 a, .int .u64 b, .int .u64 c, .int .u64 d, .int .u64 u] w fun e w' => e = .returned (.agg #[.int .u64 y0, .int .u64 y1, .int .u64 y2, .int .u64 y3]) ∧ Below w.heap.size w w' := by
  unfold hk_crossO at h
  obtain ⟨s, h1, h⟩ := Option.bind_eq_some_iff.1 h
  obtain ⟨t, h2, h⟩ := Option.bind_eq_some_iff.1 h
  obtain ⟨v, h3, h⟩ := Option.bind_eq_some_iff.1 h
  obtain ⟨q, h4, h⟩ := Option.bind_eq_some_iff.1 h
  obtain ⟨m, h5, h⟩ := Option.bind_eq_some_iff.1 h
  obtain ⟨z0, h6, h⟩ := Option.bind_eq_some_iff.1 h
  obtain ⟨z1, h7, h⟩ := Option.bind_eq_some_iff.1 h
  obtain ⟨z2, h8, h⟩ := Option.bind_eq_some_iff.1 h
  obtain ⟨z3, h9, h⟩ := Option.bind_eq_some_iff.1 h
  injection h with h
  injection h with e0 h
  injection h with e1 h
  injection h with e2 e3
  subst e0 e1 e2 e3
  exact kern4_Cross.calls a b c d u s t v q m z0 z1 z2 z3 w h1 h2 h3 h4 h5 h6 h7 h8 h9

end Go.Proofs.YtaiahgnkgbfcfaaDoor.PNaturalTexts
