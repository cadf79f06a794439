-- Written for this claim by wip/gen/mk.sh, this session's own driver over the kit's print
import Derived.Test.YtnmjomcpkckihaaPSeriesLogsx0
import Derived.Test.YtnmjomcpkckihaaPSeriesLogsx1
import Derived.Test.YtnmjomcpkckihaaPSeriesLogsx2
import Derived.Test.YtnmjomcpkckihaaPSeriesLogsx6
import Derived.Test.YtnmjomcpkckihaaPSeriesLogsx7
import Derived.Test.YtnmjomcpkckihaaPSeriesLogsx8
import Derived.Test.YtnmjomcpkckihaaPSeriesLogsx9
namespace Go.Proofs.Ytnmjomcpkckihaa.PSeriesLogs
open Go.RowKit Go.Proofs.YtnmjomcpkckihaaW.PrintWords Go.Proofs.YtnmjomcpkckihaaW.PrintLast Go.Proofs.YtnmjomcpkckihaaW.PrintMore
attribute [local go_sem] max2_int min2_int max_two min_two max_three min_three max_four min_four   -- for this text's walks alone
set_option linter.unusedVariables false
set_option linter.unusedSimpArgs false

/-! ### poly_Scale: function 52 -/
def poly_Scale.l0 : Nat → List Int → Int → List Int → Int → Int → Option (List Int)
  | 0, _, _, _, _, _ => none
  | k + 1, x0, x1, x5, x11, x12 => if x12 < x11 then (if 0 ≤ x12 then (if x12 < (x0.length : Int) then ((gold_Mul.f (rd x0 x12) x1).bind fun t362 => (if x12 < (x5.length : Int) then (poly_Scale.l0 k x0 x1 (x5.set (x12 : Int).toNat t362) x11 (wrap64 (x12 + 1))) else (none))) else (none)) else (none)) else ((poly_Trim.f k x5).bind fun t364 => (some t364))
def poly_Scale.f (k : Nat) (l0 : List Int) (a1 : Int) : Option (List Int) := if 0 ≤ (l0.length : Int) then (if ((l0.length : Int) : Int).toNat ≤ 35184372088832 then (poly_Scale.l0 k l0 a1 (List.replicate ((l0.length : Int) : Int).toNat 0) (l0.length : Int) 0) else (none)) else (none)
theorem poly_Scale.mono_l : ∀ k, (∀ y0 y1 y2 y3 y4, LeO (poly_Scale.l0 k y0 y1 y2 y3 y4) (poly_Scale.l0 (k + 1) y0 y1 y2 y3 y4))
  | 0 => fun _ _ _ _ _ r h => by simp [poly_Scale.l0] at h
  | k + 1 => by
    have ih0 := poly_Scale.mono_l k
    · intro y0 y1 y2 y3 y4
      unfold poly_Scale.l0
      repeat' first
      | (with_reducible exact ih0 _ _ _ _ _)
      | (with_reducible exact poly_Trim.mono _ _)
      | (with_reducible exact LeO.refl _)
      | (with_reducible exact LeO.none _)
      | (with_reducible refine LeO.ite ?_ ?_)
      | (with_reducible refine LeO.bind ?_ (fun _ => ?_))
      | exact ih0 _ _ _ _ _
      | exact poly_Trim.mono _ _
      | exact LeO.none _
      | refine LeO.ite ?_ ?_
      | refine LeO.bind ?_ (fun _ => ?_)
theorem poly_Scale.mono : ∀ a0 a1 k, LeO (poly_Scale.f k a0 a1) (poly_Scale.f (k + 1) a0 a1) := by
  intro a0 a1 k
  have ih0 := poly_Scale.mono_l k
  unfold poly_Scale.f
  repeat' first
      | (with_reducible exact ih0 _ _ _ _ _)
      | (with_reducible exact poly_Trim.mono _ _)
      | (with_reducible exact LeO.refl _)
      | (with_reducible exact LeO.none _)
      | (with_reducible refine LeO.ite ?_ ?_)
      | (with_reducible refine LeO.bind ?_ (fun _ => ?_))
      | exact ih0 _ _ _ _ _
      | exact poly_Trim.mono _ _
      | exact LeO.none _
      | refine LeO.ite ?_ ?_
      | refine LeO.bind ?_ (fun _ => ?_)
set_option maxHeartbeats 8000000 in
set_option maxRecDepth 100000 in
theorem poly_Scale.calls (k : Nat) (A0 : Option Addr) (c0 : Nat) (l0 : List Int) (a1 : Int) (r : List Int) (w : World) (hr0 : Kd.C (Kd.int .u64) w A0 l0.length l0) (hc0 : l0.length ≤ c0) (h : poly_Scale.f k l0 a1 = some r) :
    Calls Try.prog 52 #[.slice A0 l0.length c0, .int .u64 a1] w fun e w' => ∃ v0_ : Value, e = .returned (v0_) ∧ Kd.R (Kd.int .u64) 29 w' w.heap.size (fun _ => True) v0_ r ∧ Below w.heap.size w w' := by
  have HR0 := Aside0.mk hr0
  have HC0 := Aside0.mk hc0
  clear hr0 hc0
  have HB := Aside0.mk (Below.refl w.heap.size w)
  have H : (if 0 ≤ (l0.length : Int) then (if ((l0.length : Int) : Int).toNat ≤ 35184372088832 then (poly_Scale.l0 k l0 a1 (List.replicate ((l0.length : Int) : Int).toNat 0) (l0.length : Int) 0) else (none)) else (none)) = some r := h
  clear h
  by_cases c3 : 0 ≤ (l0.length : Int)
  · rw [if_pos c3] at H
    have c3b0 := eq_true c3
    have LTc3 := Aside0.mk (show (((l0.take (0 : Int).toNat).length : Int) = max 0 0) by rw [List.length_take]; omega)
    (try (have LDc3 := Aside0.mk (show ∀ lo_ : Nat, (((l0.take (0 : Int).toNat).drop lo_).length : Int) = (((0 : Int).toNat - lo_ : Nat) : Int) from fun lo_ => by rw [List.length_drop, List.length_take]; omega)))
    have c3b1 : decide (0 ≤ (l0.length : Int)) = true := decide_eq_true c3
    clear c3
    by_cases c4 : ((l0.length : Int) : Int).toNat ≤ 35184372088832
    · rw [if_pos c4] at H
      have c4b0 := eq_true c4
      have c4b1 : decide (((l0.length : Int) : Int).toNat ≤ 35184372088832) = true := decide_eq_true c4
      clear c4
      obtain ⟨y358, hy358⟩ : ∃ y_ : List Int, y_ = (List.replicate ((l0.length : Int) : Int).toNat 0) := ⟨_, rfl⟩
      replace H : (poly_Scale.l0 k l0 a1 y358 (l0.length : Int) 0) = some r := by first | (rw [hy358]; with_reducible exact H) | (have H2_ := (Option.bind_some _ _).symm.trans H; rw [hy358]; with_reducible exact H2_) | (have H2_ := (Option.bind_some _ _).symm.trans H; with_reducible exact H2_) | with_reducible exact H | (rw [hy358]; exact H) | exact H
      have Ny358 := Aside0.mk hy358
      clear hy358
      have H' := Aside0.mk H
      clear H
      go_enter Try.func52, Try.ntmps52
      go_wp2_with (first | ((with_reducible refine gate_dst (N := 9) rfl ?_); refine Kd.R_make (Kd.int .u64) _ 29 rfl (N := 9) rfl 22 _ _ rfl (l0.length : Int) rfl rfl Try.underlying22 (.int .u64 0) 8 info29 rfl (by decide) (by omega) 0 (ok := fun _ => True) (okp := fun _ => True) rfl (fun _ hk => hk) trivial (of_decide_eq_true (by first | (with_reducible assumption) | assumption)) (Nat.le_trans (Nat.mul_le_mul_right _ (of_decide_eq_true (by first | (with_reducible assumption) | assumption) : (l0.length : Int).toNat ≤ 35184372088832)) (by omega)) (Below.refl _ _) (Nat.le_refl _) ?_; intro v359 w5 ho6 hb hg_ hnew_; clear hg_ hnew_; (first | rw [← Ny358.out] at ho6 | (simp only [Int.reduceToNat] at ho6; rw [← Ny358.out] at ho6)); have n0_ := Aside0.mk (Kd.R_lower ho6 (below_size (by repeat (first | (with_reducible first | exact HB.out | apply below_alloc | apply pw_below_drewN | apply below_drew1) | exact HB.out)))); have n1_ := Aside0.mk (below_step (by repeat (first | (with_reducible first | exact HB.out | apply below_alloc | apply pw_below_drewN | apply below_drew1) | exact HB.out)) hb); clear HB; have HO360 := n0_; have HB := n1_; clear n0_ n1_; clear hb ho6))
      go_loopg [12] k (fun kq v12 w' => ∃ (x5_1 : List Int) (x12_1 : Int), v12 = .int .i64 x12_1 ∧ Aside0 (poly_Scale.l0 kq l0 a1 x5_1 (l0.length : Int) x12_1 = some r) ∧ Aside0 (kq ≤ k) ∧ Aside0 (Kd.R (Kd.int .u64) 29 w' w.heap.size (fun _ => True) v359 x5_1) ∧ Aside0 (Below w.heap.size w w'))
      case atStart => exact ⟨(y358), (0), (by first | rfl | (simp; done) | (simp [*]; done)), H', ⟨Nat.le_refl _⟩, ⟨by (with_reducible repeat (first | apply Kd.R_alloc | apply Kd.R_drewN | apply Kd.R_drew)); exact HO360.out⟩, ⟨by repeat (first | (with_reducible first | exact HB.out | apply below_alloc | apply pw_below_drewN | apply below_drew1) | exact HB.out)⟩⟩
      case round =>
        clear H'
        try clear p2
        try clear c3
        try clear c3b0
        try clear c3b1
        try clear c4
        try clear c4b0
        try clear c4b1
        try clear c5
        obtain ⟨x5_1, x12_1, rfl, HA, HK1, HO_5, HB⟩ := hrel
        cases gk with
        | zero => exact absurd HA.out (by simp [poly_Scale.l0])
        | succ k1 =>
          have H := HA.out
          clear HA
          simp only [poly_Scale.l0] at H
          by_cases c7 : x12_1 < (l0.length : Int)
          · rw [if_pos c7] at H
            have c7b0 : decide (x12_1 < (l0.length : Int)) = true := decide_eq_true c7
            (try (have c7b0_0 := c7b0; rw [LTc3.out] at c7b0_0))
            (try (have c7b0_0p := eq_true (of_decide_eq_true c7b0_0)))
            (try (have c7b0_1 := c7b0; rw [LDc3.out] at c7b0_1))
            (try (have c7b0_1p := eq_true (of_decide_eq_true c7b0_1)))
            clear c7
            by_cases c8 : 0 ≤ x12_1
            · rw [if_pos c8] at H
              have c8b0 : decide (0 ≤ x12_1) = true := decide_eq_true c8
              clear c8
              by_cases c9 : x12_1 < (l0.length : Int)
              · rw [if_pos c9] at H
                have c9b0 : decide (x12_1 < (l0.length : Int)) = true := decide_eq_true c9
                (try (have c9b0_0 := c9b0; rw [LTc3.out] at c9b0_0))
                (try (have c9b0_0p := eq_true (of_decide_eq_true c9b0_0)))
                (try (have c9b0_1 := c9b0; rw [LDc3.out] at c9b0_1))
                (try (have c9b0_1p := eq_true (of_decide_eq_true c9b0_1)))
                clear c9
                replace H := Option.bind_eq_some_iff.mp H
                obtain ⟨t362, A100, H⟩ := H
                replace H : (if x12_1 < (x5_1.length : Int) then (poly_Scale.l0 k1 l0 a1 (x5_1.set (x12_1 : Int).toNat t362) (l0.length : Int) (wrap64 (x12_1 + 1))) else (none)) = some r := H
                have A10 := Aside0.mk A100
                clear A100
                by_cases c11 : x12_1 < (x5_1.length : Int)
                · rw [if_pos c11] at H
                  have c11b0 : decide (x12_1 < (x5_1.length : Int)) = true := decide_eq_true c11
                  (try (have c11b0_0 := c11b0; rw [LTc3.out] at c11b0_0))
                  (try (have c11b0_0p := eq_true (of_decide_eq_true c11b0_0)))
                  (try (have c11b0_1 := c11b0; rw [LDc3.out] at c11b0_1))
                  (try (have c11b0_1p := eq_true (of_decide_eq_true c11b0_1)))
                  clear c11
                  obtain ⟨y363, hy363⟩ : ∃ y_ : List Int, y_ = (x5_1.set (x12_1 : Int).toNat t362) := ⟨_, rfl⟩
                  replace H : (poly_Scale.l0 k1 l0 a1 y363 (l0.length : Int) (wrap64 (x12_1 + 1))) = some r := by first | (rw [hy363]; with_reducible exact H) | (have H2_ := (Option.bind_some _ _).symm.trans H; rw [hy363]; with_reducible exact H2_) | (have H2_ := (Option.bind_some _ _).symm.trans H; with_reducible exact H2_) | with_reducible exact H | (rw [hy363]; exact H) | exact H
                  have Ny363 := Aside0.mk hy363
                  clear hy363
                  have H' := Aside0.mk H
                  clear H
                  have p361 : 0 ≤ (x12_1 : Int) := of_decide_eq_true (by first | (with_reducible assumption) | assumption)
                  have q361 : x12_1 < (l0.length : Int) := of_decide_eq_true (by first | (with_reducible assumption) | assumption)
                  obtain ⟨ad361, e361, hx361_0⟩ := Kd.at_int HR0.out x12_1 p361 q361
                  cases e361
                  replace hx361_0 := (HB.out.cell (World.block_lt_of_cell? w _ hx361_0)).trans hx361_0
                  replace p361 := eq_true p361
                  replace q361 := eq_true q361
                  go_wp2_with (first | ((with_reducible refine gate_callee (f := 64) rfl ?_); refine goesL_ (some 22) rfl rfl Try.func64 (by kernel_rfl) rfl #[.int .u64 (rd l0 x12_1), .int .u64 a1] rfl (by (try simp only [List.map_toArray, List.map_cons, List.map_nil]); first | done | rfl | (simp only [List.length_drop, List.length_take]; rfl)) ?_; (with_reducible refine (gold_Mul.calls (rd l0 x12_1) a1 t362 _ A10.out).mono ?_); rintro e w13 ⟨rfl, hb⟩; refine ⟨_, rfl, ?_⟩; have n0_ := Aside0.mk (Kd.R_below (by (with_reducible repeat (first | apply Kd.R_alloc | apply Kd.R_drewN | apply Kd.R_drew)); exact HO_5.out) hb); have n1_ := Aside0.mk (below_step (by repeat (first | (with_reducible first | exact HB.out | apply below_alloc | apply pw_below_drewN | apply below_drew1) | exact HB.out)) hb); clear HO_5; clear HB; have HO_5 := n0_; have HB := n1_; clear n0_ n1_; (try clear hb); (try clear hb2); (try clear hk); (try clear hi); have p12 : 0 ≤ (x12_1 : Int) := of_decide_eq_true (by first | (with_reducible assumption) | assumption); have q12 : (x12_1 : Int) < ((x5_1.length : Int) : Int) := of_decide_eq_true (by first | (with_reducible assumption) | assumption); obtain ⟨go12, co12, eo12, gb12, gl12, cl12, HG12⟩ := Kd.R_form HO_5.out (by omega); (first | cases eo12 | (injection eo12 with ea_ en_ ec_; (first | subst ea_ | (injection ea_ with ea_; subst ea_)); subst ec_; clear en_)); have GB12 := Aside0.mk gb12; have GG12 := Aside0.mk HG12; clear gb12 gl12 HG12; obtain ⟨hx12_0, hf12_0⟩ := Kd.R_celln 0 HO_5.out (x12_1 : Int) p12 q12; replace p12 := eq_true p12; replace q12 := eq_true q12; obtain ⟨hy14_, hz14_⟩ := Kd.R_celln 0 HO_5.out (x12_1 : Int) (of_decide_eq_true (by first | (with_reducible assumption) | assumption)) (of_decide_eq_true (by first | (with_reducible assumption) | assumption)); have HP14 := Kd.R_putg HO_5.out (x12_1 : Int) t362) | ((with_reducible refine gate_store (t := 29) (p := 23) rfl ?_); refine store_event (t := 29) (p := 23) (v := ?vo_w15) (w1 := (w13.setCell ⟨go12, (x12_1 : Int).toNat, none⟩ (.int .u64 t362))) ?hg ?ho ?hn ?hr ?_; (case ho => rfl); (case hg => rfl); (case hn => rfl); (case hr => first | (go_simp; done) | (go_simp; rfl)); intro w15 hw; have hg : w13.grownBy w15 (some go12) := (by rw [hw]; exact HP14.2); have hp_ : Kd.R (Kd.int .u64) 29 w15 w.heap.size (fun _ => True) (.slice (some ⟨go12, 0, none⟩) x5_1.length co12) y363 := (by rw [hw, Ny363.out]; exact HP14.1); clear HP14; have n0_ := Aside0.mk (hp_); have n1_ := Aside0.mk ((by rw [hw]; exact below_set (HB.out) GB12.out : Below w.heap.size w w15)); clear HO_5; clear HB; have HO_5 := n0_; have HB := n1_; clear n0_ n1_; clear hg hw hp_))
                  (first | go_roundg k1 | (simp only [add_plain] at *; go_roundg k1))
                  case measure => have := HK1.out; omega
                  case rel => exact ⟨(y363), (wrap64 (x12_1 + 1)), (by first | rfl | (simp; done) | (simp [*]; done)), H', ⟨by have := HK1.out; omega⟩, ⟨by (with_reducible repeat (first | apply Kd.R_alloc | apply Kd.R_drewN | apply Kd.R_drew)); exact HO_5.out⟩, ⟨by repeat (first | (with_reducible first | exact HB.out | apply below_alloc | apply pw_below_drewN | apply below_drew1) | exact HB.out)⟩⟩
                · rw [if_neg c11] at H
                  exact absurd H (by simp)
              · rw [if_neg c9] at H
                exact absurd H (by simp)
            · rw [if_neg c8] at H
              exact absurd H (by simp)
          · rw [if_neg c7] at H
            have c7b0 : decide (x12_1 < (l0.length : Int)) = false := decide_eq_false c7
            (try (have c7b0_0 := c7b0; rw [LTc3.out] at c7b0_0))
            (try (have c7b0_1 := c7b0; rw [LDc3.out] at c7b0_1))
            clear c7
            replace H := Option.bind_eq_some_iff.mp H
            obtain ⟨t364, A160, H⟩ := H
            replace H : (some t364) = some r := H
            have A16 := Aside0.mk A160
            clear A160
            obtain rfl := Option.some.inj H
            obtain ⟨Ao17, co17, eo17⟩ := Kd.R_slice HO_5.out
            subst eo17
            go_wp2_with (first | ((with_reducible refine gate_callee (f := 33) rfl ?_); refine goesL_ (some 26) rfl rfl Try.func33 (by kernel_rfl) rfl #[.slice Ao17 x5_1.length co17] rfl (by (try simp only [List.map_toArray, List.map_cons, List.map_nil]); first | done | rfl | (simp only [List.length_drop, List.length_take]; rfl)) ?_; (with_reducible refine (poly_Trim.calls k1 _ _ x5_1 t364 _ ?side1 ?side2 A16.out).mono ?_); (case side1 => repeat (first | exact (Kd.R_reads' HO_5.out).2.2 | (with_reducible refine Kd.C_alloc ?_ _) | (with_reducible refine Kd.C_drewN ?_ _) | (with_reducible refine Kd.C_drew ?_))); (case side2 => exact (Kd.R_reads' HO_5.out).2.1); rintro e w18 ⟨v365, rfl, ho0, hb⟩; refine ⟨_, rfl, ?_⟩; have n0_ := Aside0.mk (Kd.R_elder' (by (with_reducible repeat (first | apply Kd.R_alloc | apply Kd.R_drewN | apply Kd.R_drew)); exact HO_5.out) (Kd.R_base ho0) hb); have n1_ := Aside0.mk (Kd.R_lower (Kd.R_new' ho0 (Kd.R_lt (by (with_reducible repeat (first | apply Kd.R_alloc | apply Kd.R_drewN | apply Kd.R_drew)); exact HO_5.out))) (below_size (by repeat (first | (with_reducible first | exact HB.out | apply below_alloc | apply pw_below_drewN | apply below_drew1) | exact HB.out)))); have n2_ := Aside0.mk (below_step (by repeat (first | (with_reducible first | exact HB.out | apply below_alloc | apply pw_below_drewN | apply below_drew1) | exact HB.out)) hb); clear HO_5; clear HB; have HO_5 := n0_; have HO366 := n1_; have HB := n2_; clear n0_ n1_ n2_; (try clear hb); (try clear hb2); (try clear hk); (try clear hi); (try clear ho0)))
            go_ret
            exact ⟨_, by first | rfl | (simp [errW_none, errW_some] <;> rfl) | (simp [*, errW_none, errW_some] <;> rfl), by (with_reducible repeat (first | apply Kd.R_alloc | apply Kd.R_drewN | apply Kd.R_drew)); exact Kd.R_mono HO366.out (fun _ hk => trivial), by repeat (first | (with_reducible first | exact HB.out | apply below_alloc | apply pw_below_drewN | apply below_drew1) | exact HB.out)⟩
    · rw [if_neg c4] at H
      exact absurd H (by simp)
  · rw [if_neg c3] at H
    exact absurd H (by simp)

/-! ### poly_Sub: function 36 -/
def poly_Sub.f (k : Nat) (l0 : List Int) (l1 : List Int) : Option (List Int) := (poly_Scale.f k l1 18446744069414584320).bind fun t367 => ((poly_Add.f k (([l0, t367] : List (List Int)))).bind fun t373 => (some t373))
theorem poly_Sub.mono : ∀ a0 a1 k, LeO (poly_Sub.f k a0 a1) (poly_Sub.f (k + 1) a0 a1) := by
  intro a0 a1 k
  unfold poly_Sub.f
  repeat' first
      | (with_reducible exact poly_Add.mono _ _)
      | (with_reducible exact poly_Scale.mono _ _ _)
      | (with_reducible exact LeO.refl _)
      | (with_reducible exact LeO.none _)
      | (with_reducible refine LeO.ite ?_ ?_)
      | (with_reducible refine LeO.bind ?_ (fun _ => ?_))
      | exact poly_Add.mono _ _
      | exact poly_Scale.mono _ _ _
      | exact LeO.none _
      | refine LeO.ite ?_ ?_
      | refine LeO.bind ?_ (fun _ => ?_)
set_option maxHeartbeats 8000000 in
set_option maxRecDepth 100000 in
theorem poly_Sub.calls (k : Nat) (P0_ : Nat → Prop) (A0 : Option Addr) (c0 : Nat) (l0 : List Int) (A1 : Option Addr) (c1 : Nat) (l1 : List Int) (r : List Int) (w : World) (hs0 : Kd.V (Kd.int .u64) 29 w w.heap.size (fun k_ => P0_ k_) (.slice A0 l0.length c0) l0) (hr1 : Kd.C (Kd.int .u64) w A1 l1.length l1) (hc1 : l1.length ≤ c1) (h : poly_Sub.f k l0 l1 = some r) :
    Calls Try.prog 36 #[.slice A0 l0.length c0, .slice A1 l1.length c1] w fun e w' => ∃ v0_ : Value, e = .returned (v0_) ∧ Kd.R (Kd.int .u64) 29 w' w.heap.size (fun k_ => (w.heap.size ≤ k_)) v0_ r ∧ Below w.heap.size w w' := by
  have HO0 := Aside0.mk (show Kd.V (Kd.int .u64) 29 w w.heap.size (fun k_ => (P0_ k_ ∨ w.heap.size ≤ k_)) (.slice A0 l0.length c0) l0 from Kd.V_mono hs0 (fun k_ hk => .inl hk))
  have HR1 := Aside0.mk hr1
  have HC1 := Aside0.mk hc1
  clear hr1 hc1
  have HB := Aside0.mk (Below.refl w.heap.size w)
  have H : ((poly_Scale.f k l1 18446744069414584320).bind fun t367 => ((poly_Add.f k (([l0, t367] : List (List Int)))).bind fun t373 => (some t373))) = some r := h
  clear h
  replace H := Option.bind_eq_some_iff.mp H
  obtain ⟨t367, A30, H⟩ := H
  replace H : ((poly_Add.f k (([l0, t367] : List (List Int)))).bind fun t373 => (some t373)) = some r := H
  have A3 := Aside0.mk A30
  clear A30
  obtain ⟨y370, hy370⟩ : ∃ y_ : List (List Int), y_ = (([l0, t367] : List (List Int))) := ⟨_, rfl⟩
  replace H : ((poly_Add.f k y370).bind fun t373 => (some t373)) = some r := by first | (rw [hy370]; with_reducible exact H) | (have H2_ := (Option.bind_some _ _).symm.trans H; rw [hy370]; with_reducible exact H2_) | (have H2_ := (Option.bind_some _ _).symm.trans H; with_reducible exact H2_) | with_reducible exact H | (rw [hy370]; exact H) | exact H
  have Ny370 := Aside0.mk hy370
  clear hy370
  replace H := Option.bind_eq_some_iff.mp H
  obtain ⟨t373, A40, H⟩ := H
  replace H : (some t373) = some r := H
  have A4 := Aside0.mk A40
  clear A40
  obtain rfl := Option.some.inj H
  go_enter Try.func36, Try.ntmps36
  go_wp2_with (first | ((with_reducible refine gate_callee (f := 52) rfl ?_); refine goesL_ (some 7) rfl rfl Try.func52 (by kernel_rfl) rfl #[.slice A1 l1.length c1, .int .u64 18446744069414584320] rfl (by (try simp only [List.map_toArray, List.map_cons, List.map_nil]); first | done | rfl | (simp only [List.length_drop, List.length_take]; rfl)) ?_; (with_reducible refine (poly_Scale.calls k _ _ l1 18446744069414584320 t367 _ ?side1 ?side2 A3.out).mono ?_); (case side1 => repeat (first | exact HR1.out | (with_reducible refine Kd.C_alloc ?_ _) | (with_reducible refine Kd.C_drewN ?_ _) | (with_reducible refine Kd.C_drew ?_))); (case side2 => exact HC1.out); rintro e w5 ⟨v368, rfl, ho0, hb⟩; refine ⟨_, rfl, ?_⟩; have n0_ := Aside0.mk (Kd.V_elder' (by (with_reducible repeat (first | apply Kd.V_alloc | apply Kd.V_drewN | apply Kd.V_drew)); exact HO0.out) (Kd.R_base ho0) hb); have n1_ := Aside0.mk (Kd.R_lower (Kd.R_newM (M := fun k_ => (w.heap.size ≤ k_)) ho0 (below_size (by repeat (first | (with_reducible first | exact HB.out | apply below_alloc | apply pw_below_drewN | apply below_drew1) | exact HB.out))) (fun k_ h_ => h_)) (below_size (by repeat (first | (with_reducible first | exact HB.out | apply below_alloc | apply pw_below_drewN | apply below_drew1) | exact HB.out)))); have n2_ := Aside0.mk (below_step (by repeat (first | (with_reducible first | exact HB.out | apply below_alloc | apply pw_below_drewN | apply below_drew1) | exact HB.out)) hb); clear HO0; clear HB; have HO0 := n0_; have HO369 := n1_; have HB := n2_; clear n0_ n1_ n2_; (try clear hb); (try clear hb2); (try clear hk); (try clear hi); (try clear ho0); obtain ⟨Ao6, co6, eo6⟩ := Kd.R_slice HO369.out; subst eo6) | ((with_reducible refine gate_dst (N := 8) rfl ?_); refine Kd.N_lit (Kd.slice 29 (Kd.int .u64)) _ 22 ?hg (N' := 8) ?hd (xs := ([l0, t367] : List (List Int))) (inner := [.slice A0 l0.length c0, .slice Ao6 t367.length co6]) (ok := (fun k_ => (P0_ k_ ∨ w.heap.size ≤ k_))) (okp := (fun k_ => (P0_ k_ ∨ w.heap.size ≤ k_))) ?hr ?hp (fun _ hk => hk) ((show ∀ k_, w5.heap.size ≤ k_ → (fun k_ => (P0_ k_ ∨ w.heap.size ≤ k_)) k_ from fun k_ hk => (.inr (Nat.le_trans (below_size (by repeat (first | (with_reducible first | exact HB.out | apply below_alloc | apply pw_below_drewN | apply below_drew1) | exact HB.out))) hk))) _ (Nat.le_refl _)) (Below.refl _ _) (Nat.le_refl _) (by simp) ?_; (case hd => rfl); (case hg => rfl); (case hr => first | (go_simp; done) | (go_simp; rfl)); (case hp => exact (Reps.one (show Kd.FK (Kd.slice 29 (Kd.int .u64)) _ _ l0 [.slice A0 l0.length c0] from (Kd.FK_slice_mk (Kd.V_reads' (Kd.V_mono (ok' := (fun k_ => (P0_ k_ ∨ w.heap.size ≤ k_))) (HO0.out) (fun k_ hk => hk.1))).2.1 (Kd.V_F (Kd.V_mono (ok' := (fun k_ => (P0_ k_ ∨ w.heap.size ≤ k_))) (HO0.out) (fun k_ hk => hk.1))))) (Reps.one (show Kd.FK (Kd.slice 29 (Kd.int .u64)) _ _ t367 [.slice Ao6 t367.length co6] from (Kd.FK_slice_mk (Kd.R_reads' (Kd.R_mono (ok' := (fun k_ => (P0_ k_ ∨ w.heap.size ≤ k_))) (HO369.out) (fun k_ hk => (.inr (hk.1))))).2.1 (Kd.R_F (Kd.R_mono (ok' := (fun k_ => (P0_ k_ ∨ w.heap.size ≤ k_))) (HO369.out) (fun k_ hk => (.inr (hk.1))))))) (Reps.none _ _)))); intro v371 w7 ho8 hb hg_ hnew_; clear hg_ hnew_; (first | rw [← Ny370.out] at ho8 | (simp only [Int.reduceToNat] at ho8; rw [← Ny370.out] at ho8)); have n0_ := Aside0.mk (Kd.V_elder' (by (with_reducible repeat (first | apply Kd.V_alloc | apply Kd.V_drewN | apply Kd.V_drew)); exact HO0.out) (Kd.N_base ho8) hb); have n1_ := Aside0.mk (Kd.N_lower ho8 (below_size (by repeat (first | (with_reducible first | exact HB.out | apply below_alloc | apply pw_below_drewN | apply below_drew1) | exact HB.out)))); have n2_ := Aside0.mk (below_step (by repeat (first | (with_reducible first | exact HB.out | apply below_alloc | apply pw_below_drewN | apply below_drew1) | exact HB.out)) hb); clear HO0; clear HB; clear HO369; have HO0 := n0_; have HO372 := n1_; have HB := n2_; clear n0_ n1_ n2_; clear hb ho8; obtain ⟨Ao9, co9, eo9⟩ := Kd.N_slice HO372.out; subst eo9) | ((with_reducible refine gate_callee (f := 51) rfl ?_); refine goesL_ (some 9) rfl rfl Try.func51 (by kernel_rfl) rfl #[.slice Ao9 y370.length co9] rfl (by (try simp only [List.map_toArray, List.map_cons, List.map_nil]); first | done | rfl | (simp only [List.length_drop, List.length_take]; rfl)) ?_; (with_reducible refine (poly_Add.calls k _ _ y370 t373 _ ?side1 ?side2 A4.out).mono ?_); (case side1 => repeat (first | exact (Kd.N_reads' HO372.out).2.2 | (with_reducible refine Kd.C_alloc ?_ _) | (with_reducible refine Kd.C_drewN ?_ _) | (with_reducible refine Kd.C_drew ?_))); (case side2 => exact (Kd.N_reads' HO372.out).2.1); rintro e w10 ⟨v374, rfl, ho0, hb⟩; refine ⟨_, rfl, ?_⟩; have n0_ := Aside0.mk (Kd.V_elder' (by (with_reducible repeat (first | apply Kd.V_alloc | apply Kd.V_drewN | apply Kd.V_drew)); exact HO0.out) (Kd.R_base ho0) hb); have n1_ := Aside0.mk (Kd.N_elder' (by (with_reducible repeat (first | apply Kd.N_alloc | apply Kd.N_drewN | apply Kd.N_drew)); exact HO372.out) (Kd.R_base ho0) hb); have n2_ := Aside0.mk (Kd.R_lower (Kd.R_newM (M := fun k_ => (w.heap.size ≤ k_)) ho0 (below_size (by repeat (first | (with_reducible first | exact HB.out | apply below_alloc | apply pw_below_drewN | apply below_drew1) | exact HB.out))) (fun k_ h_ => h_)) (below_size (by repeat (first | (with_reducible first | exact HB.out | apply below_alloc | apply pw_below_drewN | apply below_drew1) | exact HB.out)))); have n3_ := Aside0.mk (below_step (by repeat (first | (with_reducible first | exact HB.out | apply below_alloc | apply pw_below_drewN | apply below_drew1) | exact HB.out)) hb); clear HO0; clear HO372; clear HB; have HO0 := n0_; have HO372 := n1_; have HO375 := n2_; have HB := n3_; clear n0_ n1_ n2_ n3_; (try clear hb); (try clear hb2); (try clear hk); (try clear hi); (try clear ho0)))
  go_ret
  exact ⟨_, by first | rfl | (simp [errW_none, errW_some] <;> rfl) | (simp [*, errW_none, errW_some] <;> rfl), by (with_reducible repeat (first | apply Kd.R_alloc | apply Kd.R_drewN | apply Kd.R_drew)); exact Kd.R_mono HO375.out (fun _ hk => hk.1), by repeat (first | (with_reducible first | exact HB.out | apply below_alloc | apply pw_below_drewN | apply below_drew1) | exact HB.out)⟩

-- NOT PRINTED: function 39 (series_Exp_1)

/-! ### series_Exp: function 22 (by hand) -/
/-- A step of the exponential: s * (1 + p - log s), cut off. -/
def hk_expStep (n : Nat) (p s : List Int) (m : Int) : Option (List Int) := (series_cut.f n p m).bind fun c => (series_log.f n s m).bind fun lg => (poly_Sub.f n c lg).bind fun d => (series_cut.f n d m).bind fun t => if 0 < t.length then (gold_Add.f (rd t 0) 1).bind fun v => series_mul.f n s (t.set 0 v) m else none
set_option maxHeartbeats 8000000 in
set_option maxRecDepth 100000 in
theorem hk_exp1.calls (n : Nat) (A0 : Option Addr) (c0 : Nat) (p : List Int) (As : Option Addr) (cs : Nat) (s : List Int) (m : Int) (b : Nat) (r : List Int) (w : World) (hc : w.cell? ⟨b, 0, none⟩ = some (.slice A0 p.length c0)) (hp : Kd.V (Kd.int .u64) 29 w w.heap.size (fun _ => True) (.slice A0 p.length c0) p) (hs : Kd.V (Kd.int .u64) 29 w w.heap.size (fun _ => True) (.slice As s.length cs) s) (h : hk_expStep n p s m = some r) :
    Calls Try.prog 39 #[.slice As s.length cs, .int .i64 m, .pointer (some ⟨b, 0, none⟩)] w fun e w' => ∃ v0_ : Value, e = .returned (v0_) ∧ Kd.R (Kd.int .u64) 29 w' w.heap.size (fun _ => True) v0_ r ∧ Below w.heap.size w w' := by
  unfold hk_expStep at h
  obtain ⟨c, ht1, h⟩ := Option.bind_eq_some_iff.1 h
  obtain ⟨lg, ht2, h⟩ := Option.bind_eq_some_iff.1 h
  obtain ⟨d, ht3, h⟩ := Option.bind_eq_some_iff.1 h
  obtain ⟨t, ht4, h⟩ := Option.bind_eq_some_iff.1 h
  by_cases hl : 0 < t.length
  case neg => rw [if_neg hl] at h; cases h
  rw [if_pos hl] at h
  obtain ⟨v, hv, h⟩ := Option.bind_eq_some_iff.1 h
  have HP := Aside0.mk hp
  have HS := Aside0.mk hs
  have T1 := Aside0.mk ht1
  have T2 := Aside0.mk ht2
  have T3 := Aside0.mk ht3
  have T4 := Aside0.mk ht4
  have HV := Aside0.mk hv
  have HR := Aside0.mk h
  have HL := Aside0.mk hl
  have q1 : (0 < t.length) = True := eq_true hl
  have q2 : ((0 : Int) < (t.length : Int)) = True := eq_true (by omega)
  clear hp hs ht1 ht2 ht3 ht4 hl hv h
  go_enter Try.func39, Try.ntmps39
  go_wp2_with (first | (go_at_call 32; (with_reducible refine (series_cut.calls n A0 c0 p m c _ (Kd.V_reads' HP.out).2.2 (Kd.V_reads' HP.out).2.1 T1.out).mono ?_); rintro e w1 ⟨v1, rfl, hR_, hB_⟩; obtain ⟨AC, cC, e_⟩ := Kd.R_slice hR_; subst e_; have RC := Aside0.mk hR_; have B1 := Aside0.mk hB_; clear hR_ hB_) | (go_at_call 37; (with_reducible refine (series_log.calls n As cs s m lg _ (Kd.C_below (Kd.V_reads' HS.out).2.2 B1.out) (Kd.V_reads' HS.out).2.1 T2.out).mono ?_); rintro e w2 ⟨v2, rfl, hR_, hB_⟩; obtain ⟨AL, cL, e_⟩ := Kd.R_slice hR_; subst e_; have RL := Aside0.mk hR_; have RC2 := Aside0.mk (Kd.R_below RC.out hB_); have B2 := Aside0.mk (B1.out.trans (hB_.mono B1.out.size)); clear hR_ hB_) | (go_at_call 36; (with_reducible refine (poly_Sub.calls n (fun _ => True) AC cC c AL cL lg d _ (Kd.R_V RC2.out) (Kd.R_reads' RL.out).2.2 (Kd.R_reads' RL.out).2.1 T3.out).mono ?_); rintro e w3 ⟨v3, rfl, hR_, hB_⟩; obtain ⟨AD, cD, e_⟩ := Kd.R_slice hR_; subst e_; have RD := Aside0.mk hR_; have B3 := Aside0.mk (B2.out.trans (hB_.mono B2.out.size)); clear hR_ hB_) | (go_at_call 32; (with_reducible refine (series_cut.calls n AD cD d m t _ (Kd.R_reads' RD.out).2.2 (Kd.R_reads' RD.out).2.1 T4.out).mono ?_); rintro e w4 ⟨v4, rfl, hR_, hB_⟩; obtain ⟨g, co, eo, gb, gl, cl, hGG⟩ := Kd.R_form hR_ HL.out; subst eo; have HO := Aside0.mk (Kd.R_lower (Kd.R_flat (ok' := fun j => j = g) (fun h => h) hR_ (fun q hq _ => (Option.some.inj hq).symm)) B3.out.size); have HB := Aside0.mk (B3.out.trans (hB_.mono B3.out.size)); have GB := Aside0.mk (Nat.le_trans B3.out.size gb); clear hR_ hB_ gb gl cl hGG; obtain ⟨hx0, hf0⟩ := Kd.R_celln 0 HO.out (0 : Int) (by omega) (by have := HL.out; omega); rw [show (0 : Int).toNat = 0 from rfl] at hx0 hf0; replace hx0 : w4.cell? ⟨g, 0, none⟩ = some (.int .u64 (rd t 0)) := hx0))
  (with_reducible refine (gold_Add.calls _ 1 v _ HV.out).mono ?_)
  rintro e w5 ⟨rfl, hb5⟩
  have HO5 := Aside0.mk (Kd.R_below HO.out hb5)
  have HB5 := Aside0.mk (HB.out.trans (hb5.mono HB.out.size))
  clear HO HB hb5
  clear hx0 hf0
  have f5 := Kd.R_celln 0 HO5.out (0 : Int) (by omega) (by have := HL.out; omega)
  rw [show (0 : Int).toNat = 0 from rfl] at f5
  obtain ⟨hx5, hf5⟩ := f5
  have HP5 := Aside0.mk (Kd.R_putn HO5.out (0 : Int) v)
  rw [show (0 : Int).toNat = 0 from rfl] at HP5
  have HB6 := Aside0.mk (below_set HB5.out GB.out (j := 0) (v := .int .u64 v))
  go_wp2_with fail
  clear hx5 hf5
  have VS := Kd.V_far (Kd.V_below (Kd.V_bound HS.out) HB5.out) (p := ⟨g, 0, none⟩) (fun k hk => by have h1 := hk.2; have h2 := GB.out; show k ≠ g; omega) (.int .u64 v)
  have VT := Kd.R_V (base' := (w5.setCell ⟨g, 0, none⟩ (.int .u64 v)).heap.size) HP5.out
  refine (hk_mul_at n (fun k => True ∧ k < w.heap.size) As cs s (fun j => j = g) (some ⟨g, 0, none⟩) co t.length (t.set 0 v) m r _ (by rw [List.length_set]) VS VT HR.out).mono ?_
  rintro e w7 ⟨vr, rfl, hR7_, hB7_⟩
  have HR7 := Aside0.mk (Kd.R_mono (ok' := fun _ => True) (Kd.R_lower hR7_ HB6.out.size) (fun _ _ => trivial))
  have HB7 := Aside0.mk (HB6.out.trans (hB7_.mono HB6.out.size))
  clear hR7_ hB7_
  go_wp2_with fail
  go_ret
  exact ⟨vr, rfl, HR7.out, HB7.out⟩
set_option maxHeartbeats 8000000 in
set_option maxRecDepth 100000 in
theorem hk_longerExp.calls (n k : Nat) (A0 : Option Addr) (c0 : Nat) (p : List Int) (b : Nat) (a m : Int) (s r : List Int) (w : World) (hc : w.cell? ⟨b, 0, none⟩ = some (.slice A0 p.length c0)) (hp : Kd.V (Kd.int .u64) 29 w w.heap.size (fun _ => True) (.slice A0 p.length c0) p)
    (h : hk_lng (hk_expStep n p) m k [a] 2 = some s) (h2 : series_cut.f n s m = some r) :
    Calls Try.prog 38 #[.int .u64 a, .int .i64 m, .func (.func 39) #[] #[.pointer (some ⟨b, 0, none⟩)]] w fun e w' => ∃ v0_ : Value, e = .returned (v0_) ∧ Kd.R (Kd.int .u64) 29 w' w.heap.size (fun _ => True) v0_ r ∧ Below w.heap.size w w' := by
  have HC := Aside0.mk hc
  have HP := Aside0.mk (Kd.V_bound hp)
  have H := Aside0.mk h
  have H2 := Aside0.mk h2
  have HB0 := Aside0.mk (Below.refl w.heap.size w)
  clear hc hp h h2
  go_enter Try.func38, Try.ntmps38
  go_wp2_with ((with_reducible refine gate_dst (N := 10) rfl ?_); refine Kd.R_lit (Kd.int .u64) w.heap.size 29 ?hg (N := 10) ?hd (xs := ([a] : List Int)) (inner := [.int .u64 a]) (ok := fun _ => True) (okp := fun _ => True) ?hr ?hp (fun _ hk => hk) trivial HB0.out HB0.out.size (by simp) ?_; (case hd => rfl); (case hg => rfl); (case hr => first | (go_simp; done) | (go_simp; rfl)); (case hp => exact (Reps.one (show Kd.M (Kd.int .u64) _ _ _ a [.int .u64 a] from rfl) (Reps.none _ _))); intro vq W1 ho2 hb2_ hg_ hnew_; clear hg_ hnew_; have HO := Aside0.mk ho2; have HB := Aside0.mk hb2_; clear ho2 hb2_)
  go_loopg [7, 8] k (fun kq v7 v8 w' => ∃ (x : List Int) (q : Int), v8 = .int .i64 q ∧ Aside0 (hk_lng (hk_expStep n p) m kq x q = some s) ∧ Aside0 (Kd.R (Kd.int .u64) 29 w' w.heap.size (fun _ => True) v7 x) ∧ Aside0 (Below w.heap.size w w'))
  case atStart => exact ⟨[a], 2, rfl, H, HO, HB⟩
  case round =>
    clear HO HB H
    obtain ⟨x, q, rfl, H, HO, HB⟩ := hrel
    obtain ⟨A7, c7, e7⟩ := Kd.R_slice HO.out
    subst e7
    cases gk with
    | zero => exact absurd H.out (by unfold hk_lng; simp)
    | succ k1 =>
      have h := H.out
      unfold hk_lng at h
      by_cases c : (x.length : Int) < m
      · rw [if_pos c] at h
        obtain ⟨s2, hs2, h⟩ := Option.bind_eq_some_iff.1 h
        have HS2 := Aside0.mk hs2
        have HN := Aside0.mk h
        have c1 : decide ((x.length : Int) < m) = true := decide_eq_true c
        obtain ⟨z, hz⟩ : ∃ z : Int, mn q m = z := ⟨_, rfl⟩
        have hz2 : (if m < q then m else q) = z := hz
        rw [hz] at HS2
        clear h hs2 c hz
        go_wp2_with ((go_at_call 39; (with_reducible refine (hk_exp1.calls n A0 c0 p A7 c7 x z b s2 _ ?hc ?hp ?hs HS2.out).mono ?_); (case hc => exact (HB.out.cell (World.block_lt_of_cell? w _ HC.out)).trans HC.out); (case hp => exact Kd.V_mono (Kd.V_below HP.out HB.out) (fun _ _ => trivial)); (case hs => exact Kd.R_V HO.out); rintro e w5 ⟨v5, rfl, hR_, hB_⟩; have HO5 := Aside0.mk (Kd.R_lower hR_ HB.out.size); have HB5 := Aside0.mk (HB.out.trans (hB_.mono HB.out.size)); clear hR_ hB_))
        go_roundg k1
        case measure => omega
        case rel => exact ⟨s2, wrap64 (q * 2), rfl, HN, HO5, HB5⟩
      · rw [if_neg c] at h
        obtain rfl := Option.some.inj h
        have c1 : decide ((x.length : Int) < m) = false := decide_eq_false c
        clear h c
        go_wp2_with ((go_at_call 32; (with_reducible refine (series_cut.calls n A7 c7 x m r _ (Kd.R_reads' HO.out).2.2 (Kd.R_reads' HO.out).2.1 H2.out).mono ?_); rintro e w5 ⟨v5, rfl, hR_, hB_⟩; have HO5 := Aside0.mk (Kd.R_lower hR_ HB.out.size); have HB5 := Aside0.mk (HB.out.trans (hB_.mono HB.out.size)); clear hR_ hB_))
        go_ret
        exact ⟨v5, rfl, HO5.out, HB5.out⟩
theorem hk_one_below (A0 : Option Addr) (m0 c0 : Nat) (w : World) : Below w.heap.size w (w.alloc (.cells #[.slice A0 m0 c0] 22)) := (Below.refl w.heap.size w).alloc (Nat.le_refl _) _
theorem hk_checkOne (A0 : Option Addr) (c0 : Nat) (l0 : List Int) (m r : Int) (n1 : Nat) (w : World) (hn : n1 = w.heap.size) (h0 : Kd.C (Kd.int .u64) w A0 l0.length l0) (hc0 : l0.length ≤ c0) (h : series_check.f m [l0] = some r) :
    Calls Try.prog 24 #[.int .i64 m, .slice (some ⟨n1, 0, none⟩) 1 1] (w.alloc (.cells #[.slice A0 l0.length c0] 22)) fun e w' => e = .returned (.int .i64 r) ∧ Drawn0 (w.alloc (.cells #[.slice A0 l0.length c0] 22)) w' := by
  subst hn
  refine series_check.calls m (some ⟨w.heap.size, 0, none⟩) 1 [l0] r _ ?_ (Nat.le_refl _) h
  have hb := hk_one_below A0 l0.length c0 w
  have hX : (w.alloc (.cells #[.slice A0 l0.length c0] 22)).heap[w.heap.size]? = some (.cells #[.slice A0 l0.length c0] 22 (0, 0)) := Array.getElem?_push_size
  refine ⟨rfl, by simp, fun _ => ⟨_, rfl, fun j p hj => ?_⟩⟩
  match j, hj with
  | 0, hj =>
    have e : l0 = p := Option.some.inj hj
    subst e
    refine ⟨[.slice A0 l0.length c0], rfl, ⟨A0, c0, rfl, hc0, Kd.C_below h0 hb⟩, fun i u hu => ?_⟩
    match i, hu with
    | 0, hu => rw [← Option.some.inj hu]; exact hk_blk_cell hX 0 _ rfl
    | i + 1, hu => cases hu
  | j + 1, hj => cases hj
theorem hk_boxed (A0 : Option Addr) (m0 c0 : Nat) (w w1 : World) (hd : Drawn0 ((w.alloc (.cells #[.slice A0 m0 c0] 22)).alloc (.cells #[.slice A0 m0 c0] 22)) w1) : w1.cell? ⟨w.heap.size, 0, none⟩ = some (.slice A0 m0 c0) := by
  have h1 : (w.alloc (.cells #[.slice A0 m0 c0] 22)).cell? ⟨w.heap.size, 0, none⟩ = some (.slice A0 m0 c0) := by simp
  have hb := (hk_one_below A0 m0 c0 (w.alloc (.cells #[.slice A0 m0 c0] 22))).trans ((hk_drawn_below hd).mono (hk_one_below A0 m0 c0 (w.alloc (.cells #[.slice A0 m0 c0] 22))).size)
  exact (hb.cell (World.block_lt_of_cell? _ _ h1)).trans h1
def series_Exp.f (n : Nat) (p : List Int) (m : Int) : Option (List Int × Int) := (series_check.f m [p]).bind fun e => if e = 0 then (series_first.f p).bind fun f => if f = 0 then (hk_lng (hk_expStep n p) m 20 [1] 2).bind fun s => (series_cut.f n s m).bind fun r => some (r, 0) else some ([], 10) else some ([], e)
theorem hk_expStep_mono (p : List Int) (n : Nat) (s : List Int) (m : Int) : LeO (hk_expStep n p s m) (hk_expStep (n + 1) p s m) := LeO.bind (series_cut.mono _ _ _) (fun c => LeO.bind (series_log.mono _ _ _) (fun lg => LeO.bind (poly_Sub.mono _ _ _) (fun d => LeO.bind (series_cut.mono _ _ _) (fun t => LeO.ite (LeO.bind (LeO.refl _) (fun v => series_mul.mono _ _ _ _)) (LeO.refl _)))))
theorem series_Exp.mono : ∀ a0 a1 k, LeO (series_Exp.f k a0 a1) (series_Exp.f (k + 1) a0 a1) := by
  intro a0 a1 k
  unfold series_Exp.f
  exact LeO.bind (LeO.refl _) (fun e => LeO.ite (LeO.bind (LeO.refl _) (fun f => LeO.ite (LeO.bind (hk_lng_mono (hk_expStep_mono a0 k) _ _ _ _) (fun s => LeO.bind (series_cut.mono _ _ _) (fun r => LeO.refl _))) (LeO.refl _))) (LeO.refl _))
set_option maxHeartbeats 8000000 in
set_option maxRecDepth 100000 in
theorem series_Exp.calls (k : Nat) (A0 : Option Addr) (c0 : Nat) (l0 : List Int) (a1 : Int) (r1 : List Int) (r2 : Int) (w : World) (hr0 : Kd.C (Kd.int .u64) w A0 l0.length l0) (hc0 : l0.length ≤ c0) (h : series_Exp.f k l0 a1 = some (r1, r2)) :
    Calls Try.prog 22 #[.slice A0 l0.length c0, .int .i64 a1] w fun e w' => ∃ v0_ : Value, e = .returned (.tuple #[v0_, .int .i64 r2]) ∧ Kd.R (Kd.int .u64) 29 w' w.heap.size (fun _ => True) v0_ r1 ∧ Below w.heap.size w w' := by
  unfold series_Exp.f at h
  obtain ⟨e0, h1, h⟩ := Option.bind_eq_some_iff.1 h
  have HR0 := Aside0.mk hr0
  have HC0 := Aside0.mk hc0
  have H1 := Aside0.mk h1
  have HW := Aside0.mk (hk_one_below A0 l0.length c0 w)
  clear hr0 hc0 h1
  by_cases z : e0 = 0
  case neg =>
    rw [if_neg z] at h
    obtain ⟨g1, g2⟩ := Prod.mk.inj (Option.some.inj h)
    subst g1 g2
    have z1 : (e0 == 0) = false := beq_eq_false_iff_ne.2 z
    have z2 : (e0 = 0) = False := eq_false z
    have z3 : (e0 != 0) = true := bne_iff_ne.2 z
    clear h z
    go_enter Try.func22, Try.ntmps22
    go_wp2_with (go_at_call 24; (with_reducible refine (hk_checkOne A0 c0 l0 a1 _ _ (w.alloc (.cells #[.slice A0 l0.length c0] 22)) ?hn (Kd.C_below HR0.out HW.out) HC0.out H1.out).mono ?_); (case hn => first | rfl | simp); rintro e w1 ⟨rfl, hb_⟩; have HB := Aside0.mk (HW.out.trans (((hk_one_below A0 l0.length c0 (w.alloc (.cells #[.slice A0 l0.length c0] 22))).trans ((hk_drawn_below hb_).mono (hk_one_below A0 l0.length c0 (w.alloc (.cells #[.slice A0 l0.length c0] 22))).size)).mono HW.out.size)); have hx := hk_boxed A0 l0.length c0 w w1 hb_; have HX := Aside0.mk hx; clear hb_)
    go_ret2
    exact ⟨_, rfl, Kd.R_nil _ _ _ _ _, HB.out⟩
  rw [if_pos z] at h
  subst z
  obtain ⟨f0, h2, h⟩ := Option.bind_eq_some_iff.1 h
  have H2 := Aside0.mk h2
  clear h2
  by_cases z : f0 = 0
  case neg =>
    rw [if_neg z] at h
    obtain ⟨g1, g2⟩ := Prod.mk.inj (Option.some.inj h)
    subst g1 g2
    have z1 : (f0 == 0) = false := beq_eq_false_iff_ne.2 z
    have z2 : (f0 = 0) = False := eq_false z
    have z3 : (f0 != 0) = true := bne_iff_ne.2 z
    clear h z
    go_enter Try.func22, Try.ntmps22
    go_wp2_with (first | (go_at_call 24; (with_reducible refine (hk_checkOne A0 c0 l0 a1 _ _ (w.alloc (.cells #[.slice A0 l0.length c0] 22)) ?hn (Kd.C_below HR0.out HW.out) HC0.out H1.out).mono ?_); (case hn => first | rfl | simp); rintro e w1 ⟨rfl, hb_⟩; have HB := Aside0.mk (HW.out.trans (((hk_one_below A0 l0.length c0 (w.alloc (.cells #[.slice A0 l0.length c0] 22))).trans ((hk_drawn_below hb_).mono (hk_one_below A0 l0.length c0 (w.alloc (.cells #[.slice A0 l0.length c0] 22))).size)).mono HW.out.size)); have hx := hk_boxed A0 l0.length c0 w w1 hb_; have HX := Aside0.mk hx; clear hb_) | (go_at_call 25; (with_reducible refine (series_first.calls A0 c0 l0 _ _ (Kd.C_below HR0.out HB.out) HC0.out H2.out).mono ?_); rintro e w2 ⟨rfl, hb_⟩; have HB2 := Aside0.mk (HB.out.trans ((hk_drawn_below hb_).mono HB.out.size)); have HX2 := Aside0.mk (((hk_drawn_below hb_).cell (World.block_lt_of_cell? _ _ HX.out)).trans HX.out); clear hb_))
    go_ret2
    exact ⟨_, rfl, Kd.R_nil _ _ _ _ _, HB2.out⟩
  rw [if_pos z] at h
  subst z
  obtain ⟨s, h3, h⟩ := Option.bind_eq_some_iff.1 h
  obtain ⟨r, h4, h⟩ := Option.bind_eq_some_iff.1 h
  obtain ⟨g1, g2⟩ := Prod.mk.inj (Option.some.inj h)
  subst g1 g2
  have H3 := Aside0.mk h3
  have H4 := Aside0.mk h4
  clear h h3 h4
  go_enter Try.func22, Try.ntmps22
  go_wp2_with (first | (go_at_call 24; (with_reducible refine (hk_checkOne A0 c0 l0 a1 _ _ (w.alloc (.cells #[.slice A0 l0.length c0] 22)) ?hn (Kd.C_below HR0.out HW.out) HC0.out H1.out).mono ?_); (case hn => first | rfl | simp); rintro e w1 ⟨rfl, hb_⟩; have HB := Aside0.mk (HW.out.trans (((hk_one_below A0 l0.length c0 (w.alloc (.cells #[.slice A0 l0.length c0] 22))).trans ((hk_drawn_below hb_).mono (hk_one_below A0 l0.length c0 (w.alloc (.cells #[.slice A0 l0.length c0] 22))).size)).mono HW.out.size)); have hx := hk_boxed A0 l0.length c0 w w1 hb_; have HX := Aside0.mk hx; clear hb_) | (go_at_call 25; (with_reducible refine (series_first.calls A0 c0 l0 _ _ (Kd.C_below HR0.out HB.out) HC0.out H2.out).mono ?_); rintro e w2 ⟨rfl, hb_⟩; have HB2 := Aside0.mk (HB.out.trans ((hk_drawn_below hb_).mono HB.out.size)); have HX2 := Aside0.mk (((hk_drawn_below hb_).cell (World.block_lt_of_cell? _ _ HX.out)).trans HX.out); clear hb_) | (go_at_call 38; (with_reducible refine (hk_longerExp.calls k 20 A0 c0 l0 w.heap.size 1 a1 s r _ HX2.out ?hp H3.out H4.out).mono ?_); (case hp => exact hk_V_of_C (Kd.C_below HR0.out HB2.out) HC0.out); rintro e w7 ⟨v7, rfl, hR_, hB_⟩; have HO7 := Aside0.mk (Kd.R_lower hR_ HB2.out.size); have HB7 := Aside0.mk (HB2.out.trans (hB_.mono HB2.out.size)); clear hR_ hB_))
  go_ret2
  exact ⟨v7, rfl, HO7.out, HB7.out⟩

/-! ### abacistref07_Derive: function 23 -/
def abacistref07_Derive.l0 : Nat → List Int → List Int → Int → Option (List Int)
  | 0, _, _, _ => none
  | k + 1, x0, x3, x4 => if x4 < (x0.length : Int) then (if 0 ≤ x4 then ((abacistref02_Mul.f k (IntKind.u64.wrap (x4)) (rd x0 x4)).bind fun t377 => (if x3.length < 17592186044416 then (abacistref07_Derive.l0 k x0 (x3 ++ [t377]) (wrap64 (x4 + 1))) else (none))) else (none)) else ((abacistref07_Trim.f k x3).bind fun t381 => (some t381))
def abacistref07_Derive.f (k : Nat) (l0 : List Int) : Option (List Int) := abacistref07_Derive.l0 k l0 ([] : List Int) 1
theorem abacistref07_Derive.mono_l : ∀ k, (∀ y0 y1 y2, LeO (abacistref07_Derive.l0 k y0 y1 y2) (abacistref07_Derive.l0 (k + 1) y0 y1 y2))
  | 0 => fun _ _ _ r h => by simp [abacistref07_Derive.l0] at h
  | k + 1 => by
    have ih0 := abacistref07_Derive.mono_l k
    · intro y0 y1 y2
      unfold abacistref07_Derive.l0
      repeat' first
      | (with_reducible exact ih0 _ _ _)
      | (with_reducible exact abacistref02_Mul.mono _ _ _)
      | (with_reducible exact abacistref07_Trim.mono _ _)
      | (with_reducible exact LeO.refl _)
      | (with_reducible exact LeO.none _)
      | (with_reducible refine LeO.ite ?_ ?_)
      | (with_reducible refine LeO.bind ?_ (fun _ => ?_))
      | exact ih0 _ _ _
      | exact abacistref02_Mul.mono _ _ _
      | exact abacistref07_Trim.mono _ _
      | exact LeO.none _
      | refine LeO.ite ?_ ?_
      | refine LeO.bind ?_ (fun _ => ?_)
theorem abacistref07_Derive.mono : ∀ a0 k, LeO (abacistref07_Derive.f k a0) (abacistref07_Derive.f (k + 1) a0) := by
  intro a0 k
  have ih0 := abacistref07_Derive.mono_l k
  unfold abacistref07_Derive.f
  repeat' first
      | (with_reducible exact ih0 _ _ _)
      | (with_reducible exact abacistref02_Mul.mono _ _ _)
      | (with_reducible exact abacistref07_Trim.mono _ _)
      | (with_reducible exact LeO.refl _)
      | (with_reducible exact LeO.none _)
      | (with_reducible refine LeO.ite ?_ ?_)
      | (with_reducible refine LeO.bind ?_ (fun _ => ?_))
      | exact ih0 _ _ _
      | exact abacistref02_Mul.mono _ _ _
      | exact abacistref07_Trim.mono _ _
      | exact LeO.none _
      | refine LeO.ite ?_ ?_
      | refine LeO.bind ?_ (fun _ => ?_)
set_option maxHeartbeats 80000000 in
set_option maxRecDepth 100000 in
theorem abacistref07_Derive.calls (k : Nat) (A0 : Option Addr) (c0 : Nat) (l0 : List Int) (r : List Int) (w : World) (hr0 : Kd.C (Kd.int .u64) w A0 l0.length l0) (hc0 : l0.length ≤ c0) (h : abacistref07_Derive.f k l0 = some r) :
    Calls Try.prog 23 #[.slice A0 l0.length c0] w fun e w' => ∃ v0_ : Value, e = .returned (v0_) ∧ Kd.R (Kd.int .u64) 29 w' w.heap.size (fun _ => True) v0_ r ∧ Below w.heap.size w w' := by
  have HR0 := Aside0.mk hr0
  have HC0 := Aside0.mk hc0
  clear hr0 hc0
  have HB := Aside0.mk (Below.refl w.heap.size w)
  have H : (abacistref07_Derive.l0 k l0 ([] : List Int) 1) = some r := h
  clear h
  have H' := Aside0.mk H
  clear H
  go_enter Try.func23, Try.ntmps23
  go_wp2
  go_loopg [3, 4] k (fun kq v3 v4 w' => ∃ (x3_1 : List Int) (x4_1 : Int), v4 = .int .i64 x4_1 ∧ Aside0 (abacistref07_Derive.l0 kq l0 x3_1 x4_1 = some r) ∧ Aside0 (kq ≤ k) ∧ Aside0 (Kd.R (Kd.int .u64) 29 w' w.heap.size (fun _ => True) v3 x3_1) ∧ Aside0 (Below w.heap.size w w'))
  case atStart => exact ⟨(([] : List Int)), (1), (by first | rfl | (simp; done) | (simp [*]; done)), H', ⟨Nat.le_refl _⟩, ⟨by first | exact Kd.R_nil _ _ _ _ _ | exact Kd.N_nil _ _ _ _ _ | exact Kd.V_nil _ _ _ _ _ | exact Kd.Q_nil _ _ _ _ _ | exact Kd.S_nil _ _ _ _ _⟩, ⟨by repeat (first | (with_reducible first | exact HB.out | apply below_alloc | apply pw_below_drewN | apply below_drew1) | exact HB.out)⟩⟩
  case round =>
    clear H'
    obtain ⟨x3_1, x4_1, rfl, HA, HK1, HO_3, HB⟩ := hrel
    cases gk with
    | zero => exact absurd HA.out (by simp [abacistref07_Derive.l0])
    | succ k1 =>
      have H := HA.out
      clear HA
      simp only [abacistref07_Derive.l0] at H
      by_cases c2 : x4_1 < (l0.length : Int)
      · rw [if_pos c2] at H
        have c2b0 : decide (x4_1 < (l0.length : Int)) = true := decide_eq_true c2
        clear c2
        by_cases c3 : 0 ≤ x4_1
        · rw [if_pos c3] at H
          have c3b0 : decide (0 ≤ x4_1) = true := decide_eq_true c3
          clear c3
          replace H := Option.bind_eq_some_iff.mp H
          obtain ⟨t377, A40, H⟩ := H
          replace H : (if x3_1.length < 17592186044416 then (abacistref07_Derive.l0 k1 l0 (x3_1 ++ [t377]) (wrap64 (x4_1 + 1))) else (none)) = some r := H
          have A4 := Aside0.mk A40
          clear A40
          by_cases c5 : x3_1.length < 17592186044416
          · rw [if_pos c5] at H
            have LMc5 := Aside0.mk c5
            clear c5
            obtain ⟨y378, hy378⟩ : ∃ y_ : List Int, y_ = (x3_1 ++ [t377]) := ⟨_, rfl⟩
            replace H : (abacistref07_Derive.l0 k1 l0 y378 (wrap64 (x4_1 + 1))) = some r := by first | (rw [hy378]; with_reducible exact H) | (have H2_ := (Option.bind_some _ _).symm.trans H; rw [hy378]; with_reducible exact H2_) | (have H2_ := (Option.bind_some _ _).symm.trans H; with_reducible exact H2_) | with_reducible exact H | (rw [hy378]; exact H) | exact H
            have Ny378 := Aside0.mk hy378
            clear hy378
            have H' := Aside0.mk H
            clear H
            have p376 : 0 ≤ (x4_1 : Int) := of_decide_eq_true (by first | (with_reducible assumption) | assumption)
            have q376 : x4_1 < (l0.length : Int) := of_decide_eq_true (by first | (with_reducible assumption) | assumption)
            obtain ⟨ad376, e376, hx376_0⟩ := Kd.at_int HR0.out x4_1 p376 q376
            cases e376
            replace hx376_0 := (HB.out.cell (World.block_lt_of_cell? w _ hx376_0)).trans hx376_0
            replace p376 := eq_true p376
            replace q376 := eq_true q376
            go_wp2_with (first | ((with_reducible refine gate_callee (f := 30) rfl ?_); refine goesL_ (some 18) rfl rfl Try.func30 (by kernel_rfl) rfl #[.int .u64 (IntKind.u64.wrap (x4_1)), .int .u64 (rd l0 x4_1)] rfl (by (try simp only [List.map_toArray, List.map_cons, List.map_nil]); first | done | rfl | (simp only [List.length_drop, List.length_take]; rfl)) ?_; (with_reducible refine (abacistref02_Mul.calls k1 (IntKind.u64.wrap (x4_1)) (rd l0 x4_1) t377 _ A4.out).mono ?_); rintro e w' ⟨rfl, ⟨nd, rfl⟩⟩; refine ⟨_, rfl, ?_⟩) | (go_at_call 30; (with_reducible refine (abacistref02_Mul.calls k1 (IntKind.u64.wrap (x4_1)) (rd l0 x4_1) t377 _ A4.out).mono ?_); rintro e w' ⟨rfl, ⟨nd, rfl⟩⟩) | ((with_reducible refine gate_builtin (b := .append) (xs := #[.tmp 11, .tmp 19]) rfl ?_); at_builtin; refine Kd.R_append (Kd.int .u64) (w0 := w) w.heap.size rfl (.tmp 11) (.tmp 19) 22 29 (.int .u64 0) 8 rfl Try.underlying22 info29 rfl (by decide) (by omega) u3 x3_1 t377 [.int .u64 t377] (fun _ => True) (fun _ => False) rfl rfl ?aP (fun _ hk => hk.elim) ?aF ?aO ?aB ?aS ?aL ?_; (case aP => exact rfl); (case aB => exact (by repeat (first | (with_reducible first | exact HB.out | apply below_alloc | apply pw_below_drewN | apply below_drew1) | exact HB.out))); (case aF => exact (fun _ _ => trivial)); (case aO => exact (by (with_reducible repeat (first | apply Kd.R_alloc | apply Kd.R_drewN | apply Kd.R_drew)); exact HO_3.out)); (case aS => exact (below_size (by repeat (first | (with_reducible first | exact HB.out | apply below_alloc | apply pw_below_drewN | apply below_drew1) | exact HB.out)))); (case aL => have := LMc5.out; omega); intro v379 w6 ho hb hg hat; rw [← Ny378.out] at ho; have n0_ := Aside0.mk (hb); have n1_ := Aside0.mk (ho); clear HB; clear HO_3; have HB := n0_; have HO380 := n1_; clear n0_ n1_; clear ho hb hg hat))
            (first | go_roundg k1 | (simp only [add_plain] at *; go_roundg k1))
            case measure => have := HK1.out; omega
            case rel => exact ⟨(y378), (wrap64 (x4_1 + 1)), (by first | rfl | (simp; done) | (simp [*]; done)), H', ⟨by have := HK1.out; omega⟩, ⟨by (with_reducible repeat (first | apply Kd.R_alloc | apply Kd.R_drewN | apply Kd.R_drew)); exact HO380.out⟩, ⟨by repeat (first | (with_reducible first | exact HB.out | apply below_alloc | apply pw_below_drewN | apply below_drew1) | exact HB.out)⟩⟩
          · rw [if_neg c5] at H
            exact absurd H (by simp)
        · rw [if_neg c3] at H
          exact absurd H (by simp)
      · rw [if_neg c2] at H
        have c2b0 : decide (x4_1 < (l0.length : Int)) = false := decide_eq_false c2
        clear c2
        replace H := Option.bind_eq_some_iff.mp H
        obtain ⟨t381, A70, H⟩ := H
        replace H : (some t381) = some r := H
        have A7 := Aside0.mk A70
        clear A70
        obtain rfl := Option.some.inj H
        obtain ⟨Ao8, co8, eo8⟩ := Kd.R_slice HO_3.out
        subst eo8
        go_wp2_with (first | ((with_reducible refine gate_callee (f := 19) rfl ?_); refine goesL_ (some 22) rfl rfl Try.func19 (by kernel_rfl) rfl #[.slice Ao8 x3_1.length co8] rfl (by (try simp only [List.map_toArray, List.map_cons, List.map_nil]); first | done | rfl | (simp only [List.length_drop, List.length_take]; rfl)) ?_; (with_reducible refine (abacistref07_Trim.calls k1 _ _ x3_1 t381 _ ?side1 ?side2 A7.out).mono ?_); (case side1 => repeat (first | exact (Kd.R_reads' HO_3.out).2.2 | (with_reducible refine Kd.C_alloc ?_ _) | (with_reducible refine Kd.C_drewN ?_ _) | (with_reducible refine Kd.C_drew ?_))); (case side2 => exact (Kd.R_reads' HO_3.out).2.1); rintro e w9 ⟨v382, rfl, ho0, hb⟩; refine ⟨_, rfl, ?_⟩; have n0_ := Aside0.mk (Kd.R_elder' (by (with_reducible repeat (first | apply Kd.R_alloc | apply Kd.R_drewN | apply Kd.R_drew)); exact HO_3.out) (Kd.R_base ho0) hb); have n1_ := Aside0.mk (Kd.R_lower (Kd.R_new' ho0 (Kd.R_lt (by (with_reducible repeat (first | apply Kd.R_alloc | apply Kd.R_drewN | apply Kd.R_drew)); exact HO_3.out))) (below_size (by repeat (first | (with_reducible first | exact HB.out | apply below_alloc | apply pw_below_drewN | apply below_drew1) | exact HB.out)))); have n2_ := Aside0.mk (below_step (by repeat (first | (with_reducible first | exact HB.out | apply below_alloc | apply pw_below_drewN | apply below_drew1) | exact HB.out)) hb); clear HO_3; clear HB; have HO_3 := n0_; have HO383 := n1_; have HB := n2_; clear n0_ n1_ n2_; (try clear hb); (try clear hb2); (try clear hk); (try clear hi); (try clear ho0)) | (go_at_call 19; (with_reducible refine (abacistref07_Trim.calls k1 _ _ x3_1 t381 _ ?side1 ?side2 A7.out).mono ?_); (case side1 => repeat (first | exact (Kd.R_reads' HO_3.out).2.2 | (with_reducible refine Kd.C_alloc ?_ _) | (with_reducible refine Kd.C_drewN ?_ _) | (with_reducible refine Kd.C_drew ?_))); (case side2 => exact (Kd.R_reads' HO_3.out).2.1); rintro e w9 ⟨v382, rfl, ho0, hb⟩; have n0_ := Aside0.mk (Kd.R_elder' (by (with_reducible repeat (first | apply Kd.R_alloc | apply Kd.R_drewN | apply Kd.R_drew)); exact HO_3.out) (Kd.R_base ho0) hb); have n1_ := Aside0.mk (Kd.R_lower (Kd.R_new' ho0 (Kd.R_lt (by (with_reducible repeat (first | apply Kd.R_alloc | apply Kd.R_drewN | apply Kd.R_drew)); exact HO_3.out))) (below_size (by repeat (first | (with_reducible first | exact HB.out | apply below_alloc | apply pw_below_drewN | apply below_drew1) | exact HB.out)))); have n2_ := Aside0.mk (below_step (by repeat (first | (with_reducible first | exact HB.out | apply below_alloc | apply pw_below_drewN | apply below_drew1) | exact HB.out)) hb); clear HO_3; clear HB; have HO_3 := n0_; have HO383 := n1_; have HB := n2_; clear n0_ n1_ n2_; (try clear hb); (try clear hb2); (try clear hk); (try clear hi); (try clear ho0)))
        go_ret
        exact ⟨_, by first | rfl | (simp [errW_none, errW_some] <;> rfl) | (simp [*, errW_none, errW_some] <;> rfl), by (with_reducible repeat (first | apply Kd.R_alloc | apply Kd.R_drewN | apply Kd.R_drew)); exact Kd.R_mono HO383.out (fun _ hk => trivial), by repeat (first | (with_reducible first | exact HB.out | apply below_alloc | apply pw_below_drewN | apply below_drew1) | exact HB.out)⟩

end Go.Proofs.Ytnmjomcpkckihaa.PSeriesLogs
