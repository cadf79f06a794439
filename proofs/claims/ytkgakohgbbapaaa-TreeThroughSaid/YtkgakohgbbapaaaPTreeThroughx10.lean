-- Written for this claim by wip/gen/mk.sh, this session's own driver over the kit's print
import Derived.Test.YtkgakohgbbapaaaPTreeThroughx0
import Derived.Test.YtkgakohgbbapaaaPTreeThroughx1
import Derived.Test.YtkgakohgbbapaaaPTreeThroughx2
import Derived.Test.YtkgakohgbbapaaaPTreeThroughx5
import Derived.Test.YtkgakohgbbapaaaPTreeThroughx7
import Derived.Test.YtkgakohgbbapaaaPTreeThroughx8
import Derived.Test.YtkgakohgbbapaaaPTreeThroughx9
namespace Go.Proofs.Ytkgakohgbbapaaa.PTreeThrough
open Go.RowKit Go.Proofs.YtkgakohgbbapaaaW.PrintWords Go.Proofs.YtkgakohgbbapaaaW.PrintLast Go.Proofs.YtkgakohgbbapaaaW.PrintMore
attribute [local go_sem] max2_int min2_int max_two min_two max_three min_three max_four min_four   -- for this text's walks alone
set_option linter.unusedVariables false
set_option linter.unusedSimpArgs false

/-! ### poly_Scale: function 64 -/
def poly_Scale.l0 : Nat → List Int → Int → List Int → Int → Int → Option (List Int)
  | 0, _, _, _, _, _ => none
  | k + 1, x0, x1, x5, x11, x12 => if x12 < x11 then (if 0 ≤ x12 then (if x12 < (x0.length : Int) then ((gold_Mul.f (rd x0 x12) x1).bind fun t325 => (if x12 < (x5.length : Int) then (poly_Scale.l0 k x0 x1 (x5.set (x12 : Int).toNat t325) x11 (wrap64 (x12 + 1))) else (none))) else (none)) else (none)) else ((poly_Trim.f k x5).bind fun t327 => (some t327))
def poly_Scale.f (k : Nat) (l0 : List Int) (a1 : Int) : Option (List Int) := if 0 ≤ (l0.length : Int) then (if ((l0.length : Int) : Int).toNat ≤ 35184372088832 then (poly_Scale.l0 k l0 a1 (List.replicate ((l0.length : Int) : Int).toNat 0) (l0.length : Int) 0) else (none)) else (none)
set_option maxHeartbeats 8000000 in
set_option maxRecDepth 100000 in
theorem poly_Scale.calls (k : Nat) (A0 : Option Addr) (c0 : Nat) (l0 : List Int) (a1 : Int) (r : List Int) (w : World) (hr0 : Kd.C (Kd.int .u64) w A0 l0.length l0) (hc0 : l0.length ≤ c0) (h : poly_Scale.f k l0 a1 = some r) :
    Calls Try.prog 64 #[.slice A0 l0.length c0, .int .u64 a1] w fun e w' => ∃ v0_ : Value, e = .returned (v0_) ∧ Kd.R (Kd.int .u64) 29 w' w.heap.size (fun _ => True) v0_ r ∧ Below w.heap.size w w' := by
  have HR0 := Aside0.mk hr0
  have HC0 := Aside0.mk hc0
  clear hr0 hc0
  have HB := Aside0.mk (Below.refl w.heap.size w)
  have H : (if 0 ≤ (l0.length : Int) then (if ((l0.length : Int) : Int).toNat ≤ 35184372088832 then (poly_Scale.l0 k l0 a1 (List.replicate ((l0.length : Int) : Int).toNat 0) (l0.length : Int) 0) else (none)) else (none)) = some r := h
  clear h
  by_cases c3 : 0 ≤ (l0.length : Int)
  · rw [if_pos c3] at H
    have c3b0 := eq_true c3
    have LTc3 := Aside0.mk (show (((l0.take (0 : Int).toNat).length : Int) = max 0 0) by rw [List.length_take]; omega)
    (try (have LDc3 := Aside0.mk (show ∀ lo_ : Nat, (((l0.take (0 : Int).toNat).drop lo_).length : Int) = (((0 : Int).toNat - lo_ : Nat) : Int) from fun lo_ => by rw [List.length_drop, List.length_take]; omega)))
    have c3b1 : decide (0 ≤ (l0.length : Int)) = true := decide_eq_true c3
    clear c3
    by_cases c4 : ((l0.length : Int) : Int).toNat ≤ 35184372088832
    · rw [if_pos c4] at H
      have c4b0 := eq_true c4
      have c4b1 : decide (((l0.length : Int) : Int).toNat ≤ 35184372088832) = true := decide_eq_true c4
      clear c4
      obtain ⟨y321, hy321⟩ : ∃ y_ : List Int, y_ = (List.replicate ((l0.length : Int) : Int).toNat 0) := ⟨_, rfl⟩
      replace H : (poly_Scale.l0 k l0 a1 y321 (l0.length : Int) 0) = some r := by first | (rw [hy321]; with_reducible exact H) | (have H2_ := (Option.bind_some _ _).symm.trans H; rw [hy321]; with_reducible exact H2_) | (have H2_ := (Option.bind_some _ _).symm.trans H; with_reducible exact H2_) | with_reducible exact H | (rw [hy321]; exact H) | exact H
      have Ny321 := Aside0.mk hy321
      clear hy321
      have H' := Aside0.mk H
      clear H
      go_enter Try.func64, Try.ntmps64
      go_wp2_with (first | ((with_reducible refine gate_dst (N := 9) rfl ?_); refine Kd.R_make (Kd.int .u64) _ 29 rfl (N := 9) rfl 22 _ _ rfl (l0.length : Int) rfl rfl Try.underlying22 (.int .u64 0) 8 info29 rfl (by decide) (by omega) 0 (ok := fun _ => True) (okp := fun _ => True) rfl (fun _ hk => hk) trivial (of_decide_eq_true (by first | (with_reducible assumption) | assumption)) (Nat.le_trans (Nat.mul_le_mul_right _ (of_decide_eq_true (by first | (with_reducible assumption) | assumption) : (l0.length : Int).toNat ≤ 35184372088832)) (by omega)) (Below.refl _ _) (Nat.le_refl _) ?_; intro v322 w5 ho6 hb hg_ hnew_; clear hg_ hnew_; (first | rw [← Ny321.out] at ho6 | (simp only [Int.reduceToNat] at ho6; rw [← Ny321.out] at ho6)); have n0_ := Aside0.mk (Kd.R_lower ho6 (below_size (by repeat (first | (with_reducible first | exact HB.out | apply below_alloc | apply pw_below_drewN | apply below_drew1) | exact HB.out)))); have n1_ := Aside0.mk (below_step (by repeat (first | (with_reducible first | exact HB.out | apply below_alloc | apply pw_below_drewN | apply below_drew1) | exact HB.out)) hb); clear HB; have HO323 := n0_; have HB := n1_; clear n0_ n1_; clear hb ho6))
      go_loopg [12] k (fun kq v12 w' => ∃ (x5_1 : List Int) (x12_1 : Int), v12 = .int .i64 x12_1 ∧ Aside0 (poly_Scale.l0 kq l0 a1 x5_1 (l0.length : Int) x12_1 = some r) ∧ Aside0 (kq ≤ k) ∧ Aside0 (Kd.R (Kd.int .u64) 29 w' w.heap.size (fun _ => True) v322 x5_1) ∧ Aside0 (Below w.heap.size w w'))
      case atStart => exact ⟨(y321), (0), (by first | rfl | (simp; done) | (simp [*]; done)), H', ⟨Nat.le_refl _⟩, ⟨by (with_reducible repeat (first | apply Kd.R_alloc | apply Kd.R_drewN | apply Kd.R_drew)); exact HO323.out⟩, ⟨by repeat (first | (with_reducible first | exact HB.out | apply below_alloc | apply pw_below_drewN | apply below_drew1) | exact HB.out)⟩⟩
      case round =>
        clear H'
        try clear p2
        try clear c3
        try clear c3b0
        try clear c3b1
        try clear c4
        try clear c4b0
        try clear c4b1
        try clear c6
        obtain ⟨x5_1, x12_1, rfl, HA, HK1, HO_5, HB⟩ := hrel
        cases gk with
        | zero => exact absurd HA.out (by simp [poly_Scale.l0])
        | succ k1 =>
          have H := HA.out
          clear HA
          simp only [poly_Scale.l0] at H
          by_cases c7 : x12_1 < (l0.length : Int)
          · rw [if_pos c7] at H
            have c7b0 : decide (x12_1 < (l0.length : Int)) = true := decide_eq_true c7
            (try (have c7b0_0 := c7b0; rw [LTc3.out] at c7b0_0))
            (try (have c7b0_0p := eq_true (of_decide_eq_true c7b0_0)))
            (try (have c7b0_1 := c7b0; rw [LDc3.out] at c7b0_1))
            (try (have c7b0_1p := eq_true (of_decide_eq_true c7b0_1)))
            clear c7
            by_cases c8 : 0 ≤ x12_1
            · rw [if_pos c8] at H
              have c8b0 : decide (0 ≤ x12_1) = true := decide_eq_true c8
              clear c8
              by_cases c9 : x12_1 < (l0.length : Int)
              · rw [if_pos c9] at H
                have c9b0 : decide (x12_1 < (l0.length : Int)) = true := decide_eq_true c9
                (try (have c9b0_0 := c9b0; rw [LTc3.out] at c9b0_0))
                (try (have c9b0_0p := eq_true (of_decide_eq_true c9b0_0)))
                (try (have c9b0_1 := c9b0; rw [LDc3.out] at c9b0_1))
                (try (have c9b0_1p := eq_true (of_decide_eq_true c9b0_1)))
                clear c9
                replace H := Option.bind_eq_some_iff.mp H
                obtain ⟨t325, A100, H⟩ := H
                replace H : (if x12_1 < (x5_1.length : Int) then (poly_Scale.l0 k1 l0 a1 (x5_1.set (x12_1 : Int).toNat t325) (l0.length : Int) (wrap64 (x12_1 + 1))) else (none)) = some r := H
                have A10 := Aside0.mk A100
                clear A100
                by_cases c11 : x12_1 < (x5_1.length : Int)
                · rw [if_pos c11] at H
                  have c11b0 : decide (x12_1 < (x5_1.length : Int)) = true := decide_eq_true c11
                  (try (have c11b0_0 := c11b0; rw [LTc3.out] at c11b0_0))
                  (try (have c11b0_0p := eq_true (of_decide_eq_true c11b0_0)))
                  (try (have c11b0_1 := c11b0; rw [LDc3.out] at c11b0_1))
                  (try (have c11b0_1p := eq_true (of_decide_eq_true c11b0_1)))
                  clear c11
                  obtain ⟨y326, hy326⟩ : ∃ y_ : List Int, y_ = (x5_1.set (x12_1 : Int).toNat t325) := ⟨_, rfl⟩
                  replace H : (poly_Scale.l0 k1 l0 a1 y326 (l0.length : Int) (wrap64 (x12_1 + 1))) = some r := by first | (rw [hy326]; with_reducible exact H) | (have H2_ := (Option.bind_some _ _).symm.trans H; rw [hy326]; with_reducible exact H2_) | (have H2_ := (Option.bind_some _ _).symm.trans H; with_reducible exact H2_) | with_reducible exact H | (rw [hy326]; exact H) | exact H
                  have Ny326 := Aside0.mk hy326
                  clear hy326
                  have H' := Aside0.mk H
                  clear H
                  have p324 : 0 ≤ (x12_1 : Int) := of_decide_eq_true (by first | (with_reducible assumption) | assumption)
                  have q324 : x12_1 < (l0.length : Int) := of_decide_eq_true (by first | (with_reducible assumption) | assumption)
                  obtain ⟨ad324, e324, hx324_0⟩ := Kd.at_int HR0.out x12_1 p324 q324
                  cases e324
                  replace hx324_0 := (HB.out.cell (World.block_lt_of_cell? w _ hx324_0)).trans hx324_0
                  replace p324 := eq_true p324
                  replace q324 := eq_true q324
                  go_wp2_with (first | ((with_reducible refine gate_callee (f := 28) rfl ?_); refine goesL_ (some 22) rfl rfl Try.func28 (by kernel_rfl) rfl #[.int .u64 (rd l0 x12_1), .int .u64 a1] rfl (by (try simp only [List.map_toArray, List.map_cons, List.map_nil]); first | done | rfl | (simp only [List.length_drop, List.length_take]; rfl)) ?_; (with_reducible refine (gold_Mul.calls (rd l0 x12_1) a1 t325 _ A10.out).mono ?_); rintro e w13 ⟨rfl, hb⟩; refine ⟨_, rfl, ?_⟩; have n0_ := Aside0.mk (Kd.R_below (by (with_reducible repeat (first | apply Kd.R_alloc | apply Kd.R_drewN | apply Kd.R_drew)); exact HO_5.out) hb); have n1_ := Aside0.mk (below_step (by repeat (first | (with_reducible first | exact HB.out | apply below_alloc | apply pw_below_drewN | apply below_drew1) | exact HB.out)) hb); clear HO_5; clear HB; have HO_5 := n0_; have HB := n1_; clear n0_ n1_; (try clear hb); (try clear hb2); (try clear hk); (try clear hi); have p12 : 0 ≤ (x12_1 : Int) := of_decide_eq_true (by first | (with_reducible assumption) | assumption); have q12 : (x12_1 : Int) < ((x5_1.length : Int) : Int) := of_decide_eq_true (by first | (with_reducible assumption) | assumption); obtain ⟨go12, co12, eo12, gb12, gl12, cl12, HG12⟩ := Kd.R_form HO_5.out (by omega); (first | cases eo12 | (injection eo12 with ea_ en_ ec_; (first | subst ea_ | (injection ea_ with ea_; subst ea_)); subst ec_; clear en_)); have GB12 := Aside0.mk gb12; have GG12 := Aside0.mk HG12; clear gb12 gl12 HG12; obtain ⟨hx12_0, hf12_0⟩ := Kd.R_celln 0 HO_5.out (x12_1 : Int) p12 q12; replace p12 := eq_true p12; replace q12 := eq_true q12; obtain ⟨hy14_, hz14_⟩ := Kd.R_celln 0 HO_5.out (x12_1 : Int) (of_decide_eq_true (by first | (with_reducible assumption) | assumption)) (of_decide_eq_true (by first | (with_reducible assumption) | assumption)); have HP14 := Kd.R_putg HO_5.out (x12_1 : Int) t325) | ((with_reducible refine gate_store (t := 29) (p := 23) rfl ?_); refine store_event (t := 29) (p := 23) (v := ?vo_w15) (w1 := (w13.setCell ⟨go12, (x12_1 : Int).toNat, none⟩ (.int .u64 t325))) ?hg ?ho ?hn ?hr ?_; (case ho => rfl); (case hg => rfl); (case hn => rfl); (case hr => first | (go_simp; done) | (go_simp; rfl)); intro w15 hw; have hg : w13.grownBy w15 (some go12) := (by rw [hw]; exact HP14.2); have hp_ : Kd.R (Kd.int .u64) 29 w15 w.heap.size (fun _ => True) (.slice (some ⟨go12, 0, none⟩) x5_1.length co12) y326 := (by rw [hw, Ny326.out]; exact HP14.1); clear HP14; have n0_ := Aside0.mk (hp_); have n1_ := Aside0.mk ((by rw [hw]; exact below_set (HB.out) GB12.out : Below w.heap.size w w15)); clear HO_5; clear HB; have HO_5 := n0_; have HB := n1_; clear n0_ n1_; clear hg hw hp_))
                  (first | go_roundg k1 | (simp only [add_plain] at *; go_roundg k1))
                  case measure => have := HK1.out; omega
                  case rel => exact ⟨(y326), (wrap64 (x12_1 + 1)), (by first | rfl | (simp; done) | (simp [*]; done)), H', ⟨by have := HK1.out; omega⟩, ⟨by (with_reducible repeat (first | apply Kd.R_alloc | apply Kd.R_drewN | apply Kd.R_drew)); exact HO_5.out⟩, ⟨by repeat (first | (with_reducible first | exact HB.out | apply below_alloc | apply pw_below_drewN | apply below_drew1) | exact HB.out)⟩⟩
                · rw [if_neg c11] at H
                  exact absurd H (by simp)
              · rw [if_neg c9] at H
                exact absurd H (by simp)
            · rw [if_neg c8] at H
              exact absurd H (by simp)
          · rw [if_neg c7] at H
            have c7b0 : decide (x12_1 < (l0.length : Int)) = false := decide_eq_false c7
            (try (have c7b0_0 := c7b0; rw [LTc3.out] at c7b0_0))
            (try (have c7b0_1 := c7b0; rw [LDc3.out] at c7b0_1))
            clear c7
            replace H := Option.bind_eq_some_iff.mp H
            obtain ⟨t327, A160, H⟩ := H
            replace H : (some t327) = some r := H
            have A16 := Aside0.mk A160
            clear A160
            obtain rfl := Option.some.inj H
            obtain ⟨Ao17, co17, eo17⟩ := Kd.R_slice HO_5.out
            subst eo17
            go_wp2_with (first | ((with_reducible refine gate_callee (f := 30) rfl ?_); refine goesL_ (some 26) rfl rfl Try.func30 (by kernel_rfl) rfl #[.slice Ao17 x5_1.length co17] rfl (by (try simp only [List.map_toArray, List.map_cons, List.map_nil]); first | done | rfl | (simp only [List.length_drop, List.length_take]; rfl)) ?_; (with_reducible refine (poly_Trim.calls k1 _ _ x5_1 t327 _ ?side1 ?side2 A16.out).mono ?_); (case side1 => repeat (first | exact (Kd.R_reads' HO_5.out).2.2 | (with_reducible refine Kd.C_alloc ?_ _) | (with_reducible refine Kd.C_drewN ?_ _) | (with_reducible refine Kd.C_drew ?_))); (case side2 => exact (Kd.R_reads' HO_5.out).2.1); rintro e w18 ⟨v328, rfl, ho0, hb⟩; refine ⟨_, rfl, ?_⟩; have n0_ := Aside0.mk (Kd.R_elder' (by (with_reducible repeat (first | apply Kd.R_alloc | apply Kd.R_drewN | apply Kd.R_drew)); exact HO_5.out) (Kd.R_base ho0) hb); have n1_ := Aside0.mk (Kd.R_lower (Kd.R_new' ho0 (Kd.R_lt (by (with_reducible repeat (first | apply Kd.R_alloc | apply Kd.R_drewN | apply Kd.R_drew)); exact HO_5.out))) (below_size (by repeat (first | (with_reducible first | exact HB.out | apply below_alloc | apply pw_below_drewN | apply below_drew1) | exact HB.out)))); have n2_ := Aside0.mk (below_step (by repeat (first | (with_reducible first | exact HB.out | apply below_alloc | apply pw_below_drewN | apply below_drew1) | exact HB.out)) hb); clear HO_5; clear HB; have HO_5 := n0_; have HO329 := n1_; have HB := n2_; clear n0_ n1_ n2_; (try clear hb); (try clear hb2); (try clear hk); (try clear hi); (try clear ho0)))
            go_ret
            exact ⟨_, by first | rfl | (simp [errW_none, errW_some] <;> rfl) | (simp [*, errW_none, errW_some] <;> rfl), by (with_reducible repeat (first | apply Kd.R_alloc | apply Kd.R_drewN | apply Kd.R_drew)); exact Kd.R_mono HO329.out (fun _ hk => trivial), by repeat (first | (with_reducible first | exact HB.out | apply below_alloc | apply pw_below_drewN | apply below_drew1) | exact HB.out)⟩
    · rw [if_neg c4] at H
      exact absurd H (by simp)
  · rw [if_neg c3] at H
    exact absurd H (by simp)

/-! ### poly_Sub: function 51 -/
def poly_Sub.f (k : Nat) (l0 : List Int) (l1 : List Int) : Option (List Int) := (poly_Scale.f k l1 18446744069414584320).bind fun t330 => ((poly_Add.f k (([l0, t330] : List (List Int)))).bind fun t336 => (some t336))
set_option maxHeartbeats 8000000 in
set_option maxRecDepth 100000 in
theorem poly_Sub.calls (k : Nat) (P0_ : Nat → Prop) (A0 : Option Addr) (c0 : Nat) (l0 : List Int) (A1 : Option Addr) (c1 : Nat) (l1 : List Int) (r : List Int) (w : World) (hs0 : Kd.V (Kd.int .u64) 29 w w.heap.size (fun k_ => P0_ k_) (.slice A0 l0.length c0) l0) (hr1 : Kd.C (Kd.int .u64) w A1 l1.length l1) (hc1 : l1.length ≤ c1) (h : poly_Sub.f k l0 l1 = some r) :
    Calls Try.prog 51 #[.slice A0 l0.length c0, .slice A1 l1.length c1] w fun e w' => ∃ v0_ : Value, e = .returned (v0_) ∧ Kd.R (Kd.int .u64) 29 w' w.heap.size (fun k_ => (w.heap.size ≤ k_)) v0_ r ∧ Below w.heap.size w w' := by
  have HO0 := Aside0.mk (show Kd.V (Kd.int .u64) 29 w w.heap.size (fun k_ => (P0_ k_ ∨ w.heap.size ≤ k_)) (.slice A0 l0.length c0) l0 from Kd.V_mono hs0 (fun k_ hk => .inl hk))
  have HR1 := Aside0.mk hr1
  have HC1 := Aside0.mk hc1
  clear hr1 hc1
  have HB := Aside0.mk (Below.refl w.heap.size w)
  have H : ((poly_Scale.f k l1 18446744069414584320).bind fun t330 => ((poly_Add.f k (([l0, t330] : List (List Int)))).bind fun t336 => (some t336))) = some r := h
  clear h
  replace H := Option.bind_eq_some_iff.mp H
  obtain ⟨t330, A30, H⟩ := H
  replace H : ((poly_Add.f k (([l0, t330] : List (List Int)))).bind fun t336 => (some t336)) = some r := H
  have A3 := Aside0.mk A30
  clear A30
  obtain ⟨y333, hy333⟩ : ∃ y_ : List (List Int), y_ = (([l0, t330] : List (List Int))) := ⟨_, rfl⟩
  replace H : ((poly_Add.f k y333).bind fun t336 => (some t336)) = some r := by first | (rw [hy333]; with_reducible exact H) | (have H2_ := (Option.bind_some _ _).symm.trans H; rw [hy333]; with_reducible exact H2_) | (have H2_ := (Option.bind_some _ _).symm.trans H; with_reducible exact H2_) | with_reducible exact H | (rw [hy333]; exact H) | exact H
  have Ny333 := Aside0.mk hy333
  clear hy333
  replace H := Option.bind_eq_some_iff.mp H
  obtain ⟨t336, A40, H⟩ := H
  replace H : (some t336) = some r := H
  have A4 := Aside0.mk A40
  clear A40
  obtain rfl := Option.some.inj H
  go_enter Try.func51, Try.ntmps51
  go_wp2_with (first | ((with_reducible refine gate_callee (f := 64) rfl ?_); refine goesL_ (some 7) rfl rfl Try.func64 (by kernel_rfl) rfl #[.slice A1 l1.length c1, .int .u64 18446744069414584320] rfl (by (try simp only [List.map_toArray, List.map_cons, List.map_nil]); first | done | rfl | (simp only [List.length_drop, List.length_take]; rfl)) ?_; (with_reducible refine (poly_Scale.calls k _ _ l1 18446744069414584320 t330 _ ?side1 ?side2 A3.out).mono ?_); (case side1 => repeat (first | exact HR1.out | (with_reducible refine Kd.C_alloc ?_ _) | (with_reducible refine Kd.C_drewN ?_ _) | (with_reducible refine Kd.C_drew ?_))); (case side2 => exact HC1.out); rintro e w5 ⟨v331, rfl, ho0, hb⟩; refine ⟨_, rfl, ?_⟩; have n0_ := Aside0.mk (Kd.V_elder' (by (with_reducible repeat (first | apply Kd.V_alloc | apply Kd.V_drewN | apply Kd.V_drew)); exact HO0.out) (Kd.R_base ho0) hb); have n1_ := Aside0.mk (Kd.R_lower (Kd.R_newM (M := fun k_ => (w.heap.size ≤ k_)) ho0 (below_size (by repeat (first | (with_reducible first | exact HB.out | apply below_alloc | apply pw_below_drewN | apply below_drew1) | exact HB.out))) (fun k_ h_ => h_)) (below_size (by repeat (first | (with_reducible first | exact HB.out | apply below_alloc | apply pw_below_drewN | apply below_drew1) | exact HB.out)))); have n2_ := Aside0.mk (below_step (by repeat (first | (with_reducible first | exact HB.out | apply below_alloc | apply pw_below_drewN | apply below_drew1) | exact HB.out)) hb); clear HO0; clear HB; have HO0 := n0_; have HO332 := n1_; have HB := n2_; clear n0_ n1_ n2_; (try clear hb); (try clear hb2); (try clear hk); (try clear hi); (try clear ho0); obtain ⟨Ao6, co6, eo6⟩ := Kd.R_slice HO332.out; subst eo6) | ((with_reducible refine gate_dst (N := 8) rfl ?_); refine Kd.N_lit (Kd.slice 29 (Kd.int .u64)) _ 22 ?hg (N' := 8) ?hd (xs := ([l0, t330] : List (List Int))) (inner := [.slice A0 l0.length c0, .slice Ao6 t330.length co6]) (ok := (fun k_ => (P0_ k_ ∨ w.heap.size ≤ k_))) (okp := (fun k_ => (P0_ k_ ∨ w.heap.size ≤ k_))) ?hr ?hp (fun _ hk => hk) ((show ∀ k_, w5.heap.size ≤ k_ → (fun k_ => (P0_ k_ ∨ w.heap.size ≤ k_)) k_ from fun k_ hk => (.inr (Nat.le_trans (below_size (by repeat (first | (with_reducible first | exact HB.out | apply below_alloc | apply pw_below_drewN | apply below_drew1) | exact HB.out))) hk))) _ (Nat.le_refl _)) (Below.refl _ _) (Nat.le_refl _) (by simp) ?_; (case hd => rfl); (case hg => rfl); (case hr => first | (go_simp; done) | (go_simp; rfl)); (case hp => exact (Reps.one (show Kd.FK (Kd.slice 29 (Kd.int .u64)) _ _ l0 [.slice A0 l0.length c0] from (Kd.FK_slice_mk (Kd.V_reads' (Kd.V_mono (ok' := (fun k_ => (P0_ k_ ∨ w.heap.size ≤ k_))) (HO0.out) (fun k_ hk => hk.1))).2.1 (Kd.V_F (Kd.V_mono (ok' := (fun k_ => (P0_ k_ ∨ w.heap.size ≤ k_))) (HO0.out) (fun k_ hk => hk.1))))) (Reps.one (show Kd.FK (Kd.slice 29 (Kd.int .u64)) _ _ t330 [.slice Ao6 t330.length co6] from (Kd.FK_slice_mk (Kd.R_reads' (Kd.R_mono (ok' := (fun k_ => (P0_ k_ ∨ w.heap.size ≤ k_))) (HO332.out) (fun k_ hk => (.inr (hk.1))))).2.1 (Kd.R_F (Kd.R_mono (ok' := (fun k_ => (P0_ k_ ∨ w.heap.size ≤ k_))) (HO332.out) (fun k_ hk => (.inr (hk.1))))))) (Reps.none _ _)))); intro v334 w7 ho8 hb hg_ hnew_; clear hg_ hnew_; (first | rw [← Ny333.out] at ho8 | (simp only [Int.reduceToNat] at ho8; rw [← Ny333.out] at ho8)); have n0_ := Aside0.mk (Kd.V_elder' (by (with_reducible repeat (first | apply Kd.V_alloc | apply Kd.V_drewN | apply Kd.V_drew)); exact HO0.out) (Kd.N_base ho8) hb); have n1_ := Aside0.mk (Kd.N_lower ho8 (below_size (by repeat (first | (with_reducible first | exact HB.out | apply below_alloc | apply pw_below_drewN | apply below_drew1) | exact HB.out)))); have n2_ := Aside0.mk (below_step (by repeat (first | (with_reducible first | exact HB.out | apply below_alloc | apply pw_below_drewN | apply below_drew1) | exact HB.out)) hb); clear HO0; clear HB; clear HO332; have HO0 := n0_; have HO335 := n1_; have HB := n2_; clear n0_ n1_ n2_; clear hb ho8; obtain ⟨Ao9, co9, eo9⟩ := Kd.N_slice HO335.out; subst eo9) | ((with_reducible refine gate_callee (f := 43) rfl ?_); refine goesL_ (some 9) rfl rfl Try.func43 (by kernel_rfl) rfl #[.slice Ao9 y333.length co9] rfl (by (try simp only [List.map_toArray, List.map_cons, List.map_nil]); first | done | rfl | (simp only [List.length_drop, List.length_take]; rfl)) ?_; (with_reducible refine (poly_Add.calls k _ _ y333 t336 _ ?side1 ?side2 A4.out).mono ?_); (case side1 => repeat (first | exact (Kd.N_reads' HO335.out).2.2 | (with_reducible refine Kd.C_alloc ?_ _) | (with_reducible refine Kd.C_drewN ?_ _) | (with_reducible refine Kd.C_drew ?_))); (case side2 => exact (Kd.N_reads' HO335.out).2.1); rintro e w10 ⟨v337, rfl, ho0, hb⟩; refine ⟨_, rfl, ?_⟩; have n0_ := Aside0.mk (Kd.V_elder' (by (with_reducible repeat (first | apply Kd.V_alloc | apply Kd.V_drewN | apply Kd.V_drew)); exact HO0.out) (Kd.R_base ho0) hb); have n1_ := Aside0.mk (Kd.N_elder' (by (with_reducible repeat (first | apply Kd.N_alloc | apply Kd.N_drewN | apply Kd.N_drew)); exact HO335.out) (Kd.R_base ho0) hb); have n2_ := Aside0.mk (Kd.R_lower (Kd.R_newM (M := fun k_ => (w.heap.size ≤ k_)) ho0 (below_size (by repeat (first | (with_reducible first | exact HB.out | apply below_alloc | apply pw_below_drewN | apply below_drew1) | exact HB.out))) (fun k_ h_ => h_)) (below_size (by repeat (first | (with_reducible first | exact HB.out | apply below_alloc | apply pw_below_drewN | apply below_drew1) | exact HB.out)))); have n3_ := Aside0.mk (below_step (by repeat (first | (with_reducible first | exact HB.out | apply below_alloc | apply pw_below_drewN | apply below_drew1) | exact HB.out)) hb); clear HO0; clear HO335; clear HB; have HO0 := n0_; have HO335 := n1_; have HO338 := n2_; have HB := n3_; clear n0_ n1_ n2_ n3_; (try clear hb); (try clear hb2); (try clear hk); (try clear hi); (try clear ho0)))
  go_ret
  exact ⟨_, by first | rfl | (simp [errW_none, errW_some] <;> rfl) | (simp [*, errW_none, errW_some] <;> rfl), by (with_reducible repeat (first | apply Kd.R_alloc | apply Kd.R_drewN | apply Kd.R_drew)); exact Kd.R_mono HO338.out (fun _ hk => hk.1), by repeat (first | (with_reducible first | exact HB.out | apply below_alloc | apply pw_below_drewN | apply below_drew1) | exact HB.out)⟩

/-! ### series_DivRest: function 41 (by hand) -/
theorem hk_two_below (A0 : Option Addr) (m0 c0 : Nat) (A1 : Option Addr) (m1 c1 : Nat) (w : World) : Below w.heap.size w (w.alloc (.cells #[.slice A0 m0 c0, .slice A1 m1 c1] 22)) := (Below.refl w.heap.size w).alloc (Nat.le_refl _) _
theorem hk_two_C (A0 : Option Addr) (c0 : Nat) (l0 : List Int) (A1 : Option Addr) (c1 : Nat) (l1 : List Int) (w : World) (h0 : Kd.C (Kd.int .u64) w A0 l0.length l0) (hc0 : l0.length ≤ c0) (h1 : Kd.C (Kd.int .u64) w A1 l1.length l1) (hc1 : l1.length ≤ c1) :
    Kd.C (Kd.slice 29 (Kd.int .u64)) (w.alloc (.cells #[.slice A0 l0.length c0, .slice A1 l1.length c1] 22)) (some ⟨w.heap.size, 0, none⟩) [l0, l1].length [l0, l1] := by
  have hb := hk_two_below A0 l0.length c0 A1 l1.length c1 w
  have hX : (w.alloc (.cells #[.slice A0 l0.length c0, .slice A1 l1.length c1] 22)).heap[w.heap.size]? = some (.cells #[.slice A0 l0.length c0, .slice A1 l1.length c1] 22 (0, 0)) := Array.getElem?_push_size
  refine ⟨rfl, by simp, fun _ => ⟨_, rfl, fun j p hj => ?_⟩⟩
  match j, hj with
  | 0, hj =>
    have e : l0 = p := Option.some.inj hj
    subst e
    refine ⟨[.slice A0 l0.length c0], rfl, ⟨A0, c0, rfl, hc0, Kd.C_below h0 hb⟩, fun i u hu => ?_⟩
    match i, hu with
    | 0, hu => rw [← Option.some.inj hu]; exact hk_blk_cell hX 0 _ rfl
    | i + 1, hu => cases hu
  | 1, hj =>
    have e : l1 = p := Option.some.inj hj
    subst e
    refine ⟨[.slice A1 l1.length c1], rfl, ⟨A1, c1, rfl, hc1, Kd.C_below h1 hb⟩, fun i u hu => ?_⟩
    match i, hu with
    | 0, hu => rw [← Option.some.inj hu]; exact hk_blk_cell hX 1 _ rfl
    | i + 1, hu => cases hu
  | j + 2, hj => cases hj
theorem hk_check2 (A0 : Option Addr) (c0 : Nat) (l0 : List Int) (A1 : Option Addr) (c1 : Nat) (l1 : List Int) (w : World) (h0 : Kd.C (Kd.int .u64) w A0 l0.length l0) (hc0 : l0.length ≤ c0) (h1 : Kd.C (Kd.int .u64) w A1 l1.length l1) (hc1 : l1.length ≤ c1) (hl0 : l0.length ≤ 65536) (hl1 : l1.length ≤ 65536) :
    Calls Try.prog 47 #[.int .i64 0, .slice (some ⟨w.heap.size, 0, none⟩) 2 2] (w.alloc (.cells #[.slice A0 l0.length c0, .slice A1 l1.length c1] 22)) fun e w' => e = .returned (.int .i64 0) ∧ Drawn0 (w.alloc (.cells #[.slice A0 l0.length c0, .slice A1 l1.length c1] 22)) w' := by
  refine series_check.calls 0 (some ⟨w.heap.size, 0, none⟩) 2 [l0, l1] 0 _ (hk_two_C A0 c0 l0 A1 c1 l1 w h0 hc0 h1 hc1) (Nat.le_refl _) ?_
  have hl : hk_long [l0, l1] = false := by simp [hk_long]; omega
  unfold series_check.f
  rw [if_neg (by decide), if_neg (by decide), hl, if_neg (by decide)]
theorem hk_prod2 (n : Nat) (A0 : Option Addr) (c0 : Nat) (l0 : List Int) (A1 : Option Addr) (c1 : Nat) (l1 : List Int) (r : List Int) (e : Int) (w : World) (h0 : Kd.C (Kd.int .u64) w A0 l0.length l0) (hc0 : l0.length ≤ c0) (h1 : Kd.C (Kd.int .u64) w A1 l1.length l1) (hc1 : l1.length ≤ c1) (h : conv_Product.f n [l0, l1] = some (r, e)) :
    Calls Try.prog 44 #[.slice (some ⟨w.heap.size, 0, none⟩) 2 2] (w.alloc (.cells #[.slice A0 l0.length c0, .slice A1 l1.length c1] 22)) fun e_ w' => ∃ v0_ : Value, e_ = .returned (.tuple #[v0_, .int .i64 e]) ∧ Kd.R (Kd.int .u64) 29 w' (w.alloc (.cells #[.slice A0 l0.length c0, .slice A1 l1.length c1] 22)).heap.size (fun _ => True) v0_ r ∧ Below (w.alloc (.cells #[.slice A0 l0.length c0, .slice A1 l1.length c1] 22)).heap.size (w.alloc (.cells #[.slice A0 l0.length c0, .slice A1 l1.length c1] 22)) w' :=
  conv_Product.calls n (some ⟨w.heap.size, 0, none⟩) 2 [l0, l1] r e _ (hk_two_C A0 c0 l0 A1 c1 l1 w h0 hc0 h1 hc1) (Nat.le_refl _) h
set_option maxHeartbeats 8000000 in
set_option maxRecDepth 100000 in
theorem hk_dr.zero (n : Nat) (A0 : Option Addr) (c0 : Nat) (l0 : List Int) (A1 : Option Addr) (c1 : Nat) (l1 : List Int) (p1 q1 : List Int) (w : World) (hr0 : Kd.C (Kd.int .u64) w A0 l0.length l0) (hc0 : l0.length ≤ c0) (hr1 : Kd.C (Kd.int .u64) w A1 l1.length l1) (hc1 : l1.length ≤ c1) (hl0 : l0.length ≤ 65536) (hl1 : l1.length ≤ 65536) (t1 : poly_Trim.f n l0 = some p1) (t2 : poly_Trim.f n l1 = some q1) (hq : q1.length = 0) :
    Calls Try.prog 41 #[.slice A0 l0.length c0, .slice A1 l1.length c1] w fun e_ w' => ∃ v0_ v1_ : Value, e_ = .returned (.tuple #[v0_, v1_, .int .i64 13]) ∧ Kd.R (Kd.int .u64) 29 w' w.heap.size (fun k_ => some k_ ≠ (v1_ : Value).ownBlock) v0_ [] ∧ Kd.R (Kd.int .u64) 29 w' w.heap.size (fun k_ => some k_ ≠ (v0_ : Value).ownBlock) v1_ [] ∧ Below w.heap.size w w' := by
  have HR0 := Aside0.mk hr0
  have HC0 := Aside0.mk hc0
  have HR1 := Aside0.mk hr1
  have HC1 := Aside0.mk hc1
  have HL0 := Aside0.mk hl0
  have HL1 := Aside0.mk hl1
  have T1 := Aside0.mk t1
  have T2 := Aside0.mk t2
  have z1 : ((q1.length : Int) == 0) = true := beq_iff_eq.2 (by omega)
  have z2 : (q1.length == 0) = true := beq_iff_eq.2 hq
  have z3 : (q1 = []) = True := eq_true (List.length_eq_zero_iff.1 hq)
  clear hr0 hc0 hr1 hc1 hl0 hl1 t1 t2 hq
  go_enter Try.func41, Try.ntmps41
  go_wp2_with (first | (go_at_call 47; (with_reducible refine (hk_check2 A0 c0 l0 A1 c1 l1 w HR0.out HC0.out HR1.out HC1.out HL0.out HL1.out).mono ?_); rintro e w1 ⟨rfl, hb_⟩; have HB := Aside0.mk ((hk_two_below A0 l0.length c0 A1 l1.length c1 w).trans ((hk_drawn_below hb_).mono (hk_two_below A0 l0.length c0 A1 l1.length c1 w).size)); clear hb_) | (go_at_call 30; (with_reducible refine (poly_Trim.calls n A0 c0 l0 p1 _ (Kd.C_below HR0.out HB.out) HC0.out T1.out).mono ?_); rintro e w2 ⟨v2, rfl, hR_, hB_⟩; obtain ⟨ARP, cRP, e_⟩ := Kd.R_slice hR_; subst e_; have RP := Aside0.mk (Kd.R_mono (ok' := fun _ => True) (Kd.R_lower hR_ HB.out.size) (fun _ _ => trivial));  have b_ := Aside0.mk (HB.out.trans (hB_.mono HB.out.size)); clear HB; have HB := b_; clear b_ hR_ hB_) | (go_at_call 30; (with_reducible refine (poly_Trim.calls n A1 c1 l1 q1 _ (Kd.C_below HR1.out HB.out) HC1.out T2.out).mono ?_); rintro e w3 ⟨v3, rfl, hR_, hB_⟩; obtain ⟨ARQ, cRQ, e_⟩ := Kd.R_slice hR_; subst e_; have RQ := Aside0.mk (Kd.R_mono (ok' := fun _ => True) (Kd.R_lower hR_ HB.out.size) (fun _ _ => trivial)); have r_ := Aside0.mk (Kd.R_below RP.out hB_); clear RP; have RP := r_; clear r_; have b_ := Aside0.mk (HB.out.trans (hB_.mono HB.out.size)); clear HB; have HB := b_; clear b_ hR_ hB_))
  go_ret3
  exact ⟨_, _, rfl, Kd.R_nil _ _ _ _ _, Kd.R_nil _ _ _ _ _, HB.out⟩
set_option maxHeartbeats 8000000 in
set_option maxRecDepth 100000 in
theorem hk_dr.short (n : Nat) (A0 : Option Addr) (c0 : Nat) (l0 : List Int) (A1 : Option Addr) (c1 : Nat) (l1 : List Int) (p1 q1 : List Int) (m : Int) (w : World) (hr0 : Kd.C (Kd.int .u64) w A0 l0.length l0) (hc0 : l0.length ≤ c0) (hr1 : Kd.C (Kd.int .u64) w A1 l1.length l1) (hc1 : l1.length ≤ c1) (hl0 : l0.length ≤ 65536) (hl1 : l1.length ≤ 65536) (t1 : poly_Trim.f n l0 = some p1) (t2 : poly_Trim.f n l1 = some q1) (hp1 : p1.length ≤ 65536) (hq1 : q1.length ≤ 65536) (hq : 0 < q1.length) (hm : m = (p1.length : Int) - (q1.length : Int) + 1) (hm1 : m < 1) :
    Calls Try.prog 41 #[.slice A0 l0.length c0, .slice A1 l1.length c1] w fun e_ w' => ∃ v0_ v1_ : Value, e_ = .returned (.tuple #[v0_, v1_, .int .i64 0]) ∧ Kd.R (Kd.int .u64) 29 w' w.heap.size (fun k_ => some k_ ≠ (v1_ : Value).ownBlock) v0_ [] ∧ Kd.R (Kd.int .u64) 29 w' w.heap.size (fun k_ => some k_ ≠ (v0_ : Value).ownBlock) v1_ p1 ∧ Below w.heap.size w w' := by
  have HR0 := Aside0.mk hr0
  have HC0 := Aside0.mk hc0
  have HR1 := Aside0.mk hr1
  have HC1 := Aside0.mk hc1
  have HL0 := Aside0.mk hl0
  have HL1 := Aside0.mk hl1
  have T1 := Aside0.mk t1
  have T2 := Aside0.mk t2
  have z1 : ((q1.length : Int) == 0) = false := beq_eq_false_iff_ne.2 (by omega)
  have z2 : (q1.length == 0) = false := beq_eq_false_iff_ne.2 (by omega)
  have z3 : (q1 = []) = False := eq_false (fun h => by rw [h] at hq; exact absurd hq (by decide))
  obtain ⟨d, hd⟩ : ∃ d : Int, d = (p1.length : Int) - (q1.length : Int) := ⟨_, rfl⟩
  have e1 : wrap64 ((p1.length : Int) - (q1.length : Int)) = d := by rw [← hd]; unfold wrap64; omega
  have e2 : wrap64 (d + 1) = m := by rw [show d + 1 = m by omega]; unfold wrap64; omega
  have z4 : decide (m < 1) = true := decide_eq_true hm1
  clear hr0 hc0 hr1 hc1 hl0 hl1 t1 t2 hq hd hm hm1 hp1 hq1
  go_enter Try.func41, Try.ntmps41
  go_wp2_with (first | (go_at_call 47; (with_reducible refine (hk_check2 A0 c0 l0 A1 c1 l1 w HR0.out HC0.out HR1.out HC1.out HL0.out HL1.out).mono ?_); rintro e w1 ⟨rfl, hb_⟩; have HB := Aside0.mk ((hk_two_below A0 l0.length c0 A1 l1.length c1 w).trans ((hk_drawn_below hb_).mono (hk_two_below A0 l0.length c0 A1 l1.length c1 w).size)); clear hb_) | (go_at_call 30; (with_reducible refine (poly_Trim.calls n A0 c0 l0 p1 _ (Kd.C_below HR0.out HB.out) HC0.out T1.out).mono ?_); rintro e w2 ⟨v2, rfl, hR_, hB_⟩; obtain ⟨ARP, cRP, e_⟩ := Kd.R_slice hR_; subst e_; have RP := Aside0.mk (Kd.R_mono (ok' := fun _ => True) (Kd.R_lower hR_ HB.out.size) (fun _ _ => trivial));  have b_ := Aside0.mk (HB.out.trans (hB_.mono HB.out.size)); clear HB; have HB := b_; clear b_ hR_ hB_) | (go_at_call 30; (with_reducible refine (poly_Trim.calls n A1 c1 l1 q1 _ (Kd.C_below HR1.out HB.out) HC1.out T2.out).mono ?_); rintro e w3 ⟨v3, rfl, hR_, hB_⟩; obtain ⟨ARQ, cRQ, e_⟩ := Kd.R_slice hR_; subst e_; have RQ := Aside0.mk (Kd.R_mono (ok' := fun _ => True) (Kd.R_lower hR_ HB.out.size) (fun _ _ => trivial)); have r_ := Aside0.mk (Kd.R_below RP.out hB_); clear RP; have RP := r_; clear r_; have b_ := Aside0.mk (HB.out.trans (hB_.mono HB.out.size)); clear HB; have HB := b_; clear b_ hR_ hB_))
  go_ret3
  exact ⟨_, _, rfl, Kd.R_nil _ _ _ _ _, Kd.R_mono RP.out (fun k _ => by simp [Value.ownBlock]), HB.out⟩
set_option maxHeartbeats 8000000 in
set_option maxRecDepth 100000 in
theorem hk_dr.good (n : Nat) (A0 : Option Addr) (c0 : Nat) (l0 : List Int) (A1 : Option Addr) (c1 : Nat) (l1 : List Int) (p1 q1 tp tq iv ml tm quo pr rest : List Int) (m pe : Int) (w : World) (hr0 : Kd.C (Kd.int .u64) w A0 l0.length l0) (hc0 : l0.length ≤ c0) (hr1 : Kd.C (Kd.int .u64) w A1 l1.length l1) (hc1 : l1.length ≤ c1) (hl0 : l0.length ≤ 65536) (hl1 : l1.length ≤ 65536) (t1 : poly_Trim.f n l0 = some p1) (t2 : poly_Trim.f n l1 = some q1) (hp1 : p1.length ≤ 65536) (hq1 : q1.length ≤ 65536) (hq : 0 < q1.length) (hm : m = (p1.length : Int) - (q1.length : Int) + 1) (hm1 : ¬ m < 1) (t3 : series_turned.f n p1 = some tp) (t4 : series_turned.f n q1 = some tq) (t5 : series_inv.f n tq m = some iv) (t6 : series_mul.f n tp iv m = some ml) (t7 : series_turned.f n ml = some tm) (t8 : poly_Trim.f n tm = some quo) (t9 : conv_Product.f n [quo, q1] = some (pr, pe)) (t10 : poly_Sub.f n p1 pr = some rest) :
    Calls Try.prog 41 #[.slice A0 l0.length c0, .slice A1 l1.length c1] w fun e_ w' => ∃ v0_ v1_ : Value, e_ = .returned (.tuple #[v0_, v1_, .int .i64 0]) ∧ Kd.R (Kd.int .u64) 29 w' w.heap.size (fun k_ => some k_ ≠ (v1_ : Value).ownBlock) v0_ quo ∧ Kd.R (Kd.int .u64) 29 w' w.heap.size (fun k_ => some k_ ≠ (v0_ : Value).ownBlock) v1_ rest ∧ Below w.heap.size w w' := by
  have HR0 := Aside0.mk hr0
  have HC0 := Aside0.mk hc0
  have HR1 := Aside0.mk hr1
  have HC1 := Aside0.mk hc1
  have HL0 := Aside0.mk hl0
  have HL1 := Aside0.mk hl1
  have T1 := Aside0.mk t1
  have T2 := Aside0.mk t2
  have T3 := Aside0.mk t3
  have T4 := Aside0.mk t4
  have T5 := Aside0.mk t5
  have T6 := Aside0.mk t6
  have T7 := Aside0.mk t7
  have T8 := Aside0.mk t8
  have T9 := Aside0.mk t9
  have T10 := Aside0.mk t10
  have z1 : ((q1.length : Int) == 0) = false := beq_eq_false_iff_ne.2 (by omega)
  have z2 : (q1.length == 0) = false := beq_eq_false_iff_ne.2 (by omega)
  have z3 : (q1 = []) = False := eq_false (fun h => by rw [h] at hq; exact absurd hq (by decide))
  obtain ⟨d, hd⟩ : ∃ d : Int, d = (p1.length : Int) - (q1.length : Int) := ⟨_, rfl⟩
  have e1 : wrap64 ((p1.length : Int) - (q1.length : Int)) = d := by rw [← hd]; unfold wrap64; omega
  have e2 : wrap64 (d + 1) = m := by rw [show d + 1 = m by omega]; unfold wrap64; omega
  have z4 : decide (m < 1) = false := decide_eq_false hm1
  clear hr0 hc0 hr1 hc1 hl0 hl1 t1 t2 t3 t4 t5 t6 t7 t8 t9 t10 hq hd hm hm1 hp1 hq1
  go_enter Try.func41, Try.ntmps41
  go_wp2_with (first | (go_at_call 47; (with_reducible refine (hk_check2 A0 c0 l0 A1 c1 l1 w HR0.out HC0.out HR1.out HC1.out HL0.out HL1.out).mono ?_); rintro e w1 ⟨rfl, hb_⟩; have HB := Aside0.mk ((hk_two_below A0 l0.length c0 A1 l1.length c1 w).trans ((hk_drawn_below hb_).mono (hk_two_below A0 l0.length c0 A1 l1.length c1 w).size)); clear hb_) | (go_at_call 30; (with_reducible refine (poly_Trim.calls n A0 c0 l0 p1 _ (Kd.C_below HR0.out HB.out) HC0.out T1.out).mono ?_); rintro e w2 ⟨v2, rfl, hR_, hB_⟩; obtain ⟨ARP, cRP, e_⟩ := Kd.R_slice hR_; subst e_; have RP := Aside0.mk (Kd.R_mono (ok' := fun _ => True) (Kd.R_lower hR_ HB.out.size) (fun _ _ => trivial));  have b_ := Aside0.mk (HB.out.trans (hB_.mono HB.out.size)); clear HB; have HB := b_; clear b_ hR_ hB_) | (go_at_call 30; (with_reducible refine (poly_Trim.calls n A1 c1 l1 q1 _ (Kd.C_below HR1.out HB.out) HC1.out T2.out).mono ?_); rintro e w3 ⟨v3, rfl, hR_, hB_⟩; obtain ⟨ARQ, cRQ, e_⟩ := Kd.R_slice hR_; subst e_; have RQ := Aside0.mk (Kd.R_mono (ok' := fun _ => True) (Kd.R_lower hR_ HB.out.size) (fun _ _ => trivial)); have r_ := Aside0.mk (Kd.R_below RP.out hB_); clear RP; have RP := r_; clear r_; have b_ := Aside0.mk (HB.out.trans (hB_.mono HB.out.size)); clear HB; have HB := b_; clear b_ hR_ hB_) | (go_at_call 48; (with_reducible refine (series_turned.calls n ARP cRP p1 tp _ (Kd.R_reads' RP.out).2.2 (Kd.R_reads' RP.out).2.1 T3.out).mono ?_); rintro e w4 ⟨v4, rfl, hR_, hB_⟩; obtain ⟨ARTP, cRTP, e_⟩ := Kd.R_slice hR_; subst e_; have RTP := Aside0.mk (Kd.R_mono (ok' := fun _ => True) (Kd.R_lower hR_ HB.out.size) (fun _ _ => trivial)); have r_ := Aside0.mk (Kd.R_below RP.out hB_); clear RP; have RP := r_; clear r_; have r_ := Aside0.mk (Kd.R_below RQ.out hB_); clear RQ; have RQ := r_; clear r_; have b_ := Aside0.mk (HB.out.trans (hB_.mono HB.out.size)); clear HB; have HB := b_; clear b_ hR_ hB_) | (go_at_call 48; (with_reducible refine (series_turned.calls n ARQ cRQ q1 tq _ (Kd.R_reads' RQ.out).2.2 (Kd.R_reads' RQ.out).2.1 T4.out).mono ?_); rintro e w5 ⟨v5, rfl, hR_, hB_⟩; obtain ⟨ARTQ, cRTQ, e_⟩ := Kd.R_slice hR_; subst e_; have RTQ := Aside0.mk (Kd.R_mono (ok' := fun _ => True) (Kd.R_lower hR_ HB.out.size) (fun _ _ => trivial)); have r_ := Aside0.mk (Kd.R_below RP.out hB_); clear RP; have RP := r_; clear r_; have r_ := Aside0.mk (Kd.R_below RQ.out hB_); clear RQ; have RQ := r_; clear r_; have r_ := Aside0.mk (Kd.R_below RTP.out hB_); clear RTP; have RTP := r_; clear r_; have b_ := Aside0.mk (HB.out.trans (hB_.mono HB.out.size)); clear HB; have HB := b_; clear b_ hR_ hB_) | (go_at_call 50; (with_reducible refine (series_inv.calls n ARTQ cRTQ tq m iv _ (Kd.R_reads' RTQ.out).2.2 (Kd.R_reads' RTQ.out).2.1 T5.out).mono ?_); rintro e w6 ⟨v6, rfl, hR_, hB_⟩; obtain ⟨ARIV, cRIV, e_⟩ := Kd.R_slice hR_; subst e_; have RIV := Aside0.mk (Kd.R_mono (ok' := fun _ => True) (Kd.R_lower hR_ HB.out.size) (fun _ _ => trivial)); have r_ := Aside0.mk (Kd.R_below RP.out hB_); clear RP; have RP := r_; clear r_; have r_ := Aside0.mk (Kd.R_below RQ.out hB_); clear RQ; have RQ := r_; clear r_; have r_ := Aside0.mk (Kd.R_below RTP.out hB_); clear RTP; have RTP := r_; clear r_; have b_ := Aside0.mk (HB.out.trans (hB_.mono HB.out.size)); clear HB; have HB := b_; clear b_ hR_ hB_) | (go_at_call 49; (with_reducible refine (series_mul.calls n (fun _ => True) ARTP cRTP tp (fun _ => True) ARIV cRIV iv m ml _ (Kd.R_V RTP.out) (Kd.R_V RIV.out) T6.out).mono ?_); rintro e w7 ⟨v7, rfl, hR_, hB_⟩; obtain ⟨ARML, cRML, e_⟩ := Kd.R_slice hR_; subst e_; have RML := Aside0.mk (Kd.R_mono (ok' := fun _ => True) (Kd.R_lower hR_ HB.out.size) (fun _ _ => trivial)); have r_ := Aside0.mk (Kd.R_below RP.out hB_); clear RP; have RP := r_; clear r_; have r_ := Aside0.mk (Kd.R_below RQ.out hB_); clear RQ; have RQ := r_; clear r_; have b_ := Aside0.mk (HB.out.trans (hB_.mono HB.out.size)); clear HB; have HB := b_; clear b_ hR_ hB_) | (go_at_call 48; (with_reducible refine (series_turned.calls n ARML cRML ml tm _ (Kd.R_reads' RML.out).2.2 (Kd.R_reads' RML.out).2.1 T7.out).mono ?_); rintro e w8 ⟨v8, rfl, hR_, hB_⟩; obtain ⟨ARTM, cRTM, e_⟩ := Kd.R_slice hR_; subst e_; have RTM := Aside0.mk (Kd.R_mono (ok' := fun _ => True) (Kd.R_lower hR_ HB.out.size) (fun _ _ => trivial)); have r_ := Aside0.mk (Kd.R_below RP.out hB_); clear RP; have RP := r_; clear r_; have r_ := Aside0.mk (Kd.R_below RQ.out hB_); clear RQ; have RQ := r_; clear r_; have b_ := Aside0.mk (HB.out.trans (hB_.mono HB.out.size)); clear HB; have HB := b_; clear b_ hR_ hB_) | (go_at_call 30; (with_reducible refine (poly_Trim.calls n ARTM cRTM tm quo _ (Kd.R_reads' RTM.out).2.2 (Kd.R_reads' RTM.out).2.1 T8.out).mono ?_); rintro e w9 ⟨v9, rfl, hR_, hB_⟩; obtain ⟨ARU, cRU, e_⟩ := Kd.R_slice hR_; subst e_; have RU := Aside0.mk (Kd.R_mono (ok' := fun _ => True) (Kd.R_lower hR_ HB.out.size) (fun _ _ => trivial)); have r_ := Aside0.mk (Kd.R_below RP.out hB_); clear RP; have RP := r_; clear r_; have r_ := Aside0.mk (Kd.R_below RQ.out hB_); clear RQ; have RQ := r_; clear r_; have b_ := Aside0.mk (HB.out.trans (hB_.mono HB.out.size)); clear HB; have HB := b_; clear b_ hR_ hB_) | (go_at_call 44; (with_reducible refine (hk_prod2 n ARU cRU quo ARQ cRQ q1 pr pe _ (Kd.R_reads' RU.out).2.2 (Kd.R_reads' RU.out).2.1 (Kd.R_reads' RQ.out).2.2 (Kd.R_reads' RQ.out).2.1 T9.out).mono ?_); rintro e w10 ⟨v10, rfl, hR_, hB2_⟩; obtain ⟨ARM, cRM, e_⟩ := Kd.R_slice hR_; subst e_; have hB_ := (hk_two_below ARU quo.length cRU ARQ q1.length cRQ w9).trans (hB2_.mono (hk_two_below ARU quo.length cRU ARQ q1.length cRQ w9).size); have RM := Aside0.mk (Kd.R_mono (ok' := fun _ => True) (Kd.R_lower hR_ (Nat.le_trans HB.out.size (hk_two_below ARU quo.length cRU ARQ q1.length cRQ w9).size)) (fun _ _ => trivial)); have r_ := Aside0.mk (Kd.R_below RP.out hB_); clear RP; have RP := r_; clear r_; have r_ := Aside0.mk (Kd.R_below RU.out hB_); clear RU; have RU := r_; clear r_; have b_ := Aside0.mk (HB.out.trans (hB_.mono HB.out.size)); clear HB; have HB := b_; clear b_ hR_ hB_ hB2_) | (go_at_call 51; (with_reducible refine (poly_Sub.calls n (fun _ => True) ARP cRP p1 ARM cRM pr rest _ (Kd.R_V RP.out) (Kd.R_reads' RM.out).2.2 (Kd.R_reads' RM.out).2.1 T10.out).mono ?_); rintro e w11 ⟨v11, rfl, hR_, hB_⟩; have HD := Aside0.mk (show ∀ j, (Value.slice ARU quo.length cRU).ownBlock = some j → ¬ v11.ownBlock = some j from fun j h1 h2 => by (have a1 := Kd.R_lt RU.out j h1); (have a2 := ((Kd.R_bound hR_).1 j h2).2.1); omega); have RS := Aside0.mk (Kd.R_mono (ok' := fun _ => True) (Kd.R_lower hR_ HB.out.size) (fun _ _ => trivial)); have r_ := Aside0.mk (Kd.R_below RU.out hB_); clear RU; have RU := r_; clear r_; have b_ := Aside0.mk (HB.out.trans (hB_.mono HB.out.size)); clear HB; have HB := b_; clear b_ hR_ hB_))
  go_ret3
  exact ⟨_, _, rfl, Kd.R_reok rfl RU.out (fun k hk hs => HD.out k hk hs.symm), Kd.R_reok rfl RS.out (fun k hk hs => HD.out k hs.symm hk), HB.out⟩
def series_DivRest.f (n : Nat) (p q : List Int) : Option (List Int × List Int × Int) := if p.length ≤ 65536 ∧ q.length ≤ 65536 then (poly_Trim.f n p).bind fun p1 => (poly_Trim.f n q).bind fun q1 => if p1.length ≤ 65536 ∧ q1.length ≤ 65536 then (if q1.length = 0 then some ([], [], 13) else if (p1.length : Int) - (q1.length : Int) + 1 < 1 then some ([], p1, 0) else (series_turned.f n p1).bind fun tp => (series_turned.f n q1).bind fun tq => (series_inv.f n tq ((p1.length : Int) - (q1.length : Int) + 1)).bind fun iv => (series_mul.f n tp iv ((p1.length : Int) - (q1.length : Int) + 1)).bind fun ml => (series_turned.f n ml).bind fun tm => (poly_Trim.f n tm).bind fun quo => (conv_Product.f n [quo, q1]).bind fun pr => (poly_Sub.f n p1 pr.1).bind fun rest => some (quo, rest, 0)) else none else none
theorem series_DivRest.calls (k : Nat) (A0 : Option Addr) (c0 : Nat) (l0 : List Int) (A1 : Option Addr) (c1 : Nat) (l1 : List Int) (r1 : List Int) (r2 : List Int) (r3 : Int) (w : World) (hr0 : Kd.C (Kd.int .u64) w A0 l0.length l0) (hc0 : l0.length ≤ c0) (hr1 : Kd.C (Kd.int .u64) w A1 l1.length l1) (hc1 : l1.length ≤ c1) (h : series_DivRest.f k l0 l1 = some (r1, r2, r3)) :
    Calls Try.prog 41 #[.slice A0 l0.length c0, .slice A1 l1.length c1] w fun e w' => ∃ v0_ v1_ : Value, e = .returned (.tuple #[v0_, v1_, .int .i64 r3]) ∧ Kd.R (Kd.int .u64) 29 w' w.heap.size (fun k_ => some k_ ≠ (v1_ : Value).ownBlock) v0_ r1 ∧ Kd.R (Kd.int .u64) 29 w' w.heap.size (fun k_ => some k_ ≠ (v0_ : Value).ownBlock) v1_ r2 ∧ Below w.heap.size w w' := by
  unfold series_DivRest.f at h
  by_cases c : l0.length ≤ 65536 ∧ l1.length ≤ 65536
  case neg => rw [if_neg c] at h; cases h
  rw [if_pos c] at h
  obtain ⟨p1, t1, h⟩ := Option.bind_eq_some_iff.1 h
  obtain ⟨q1, t2, h⟩ := Option.bind_eq_some_iff.1 h
  by_cases c2 : p1.length ≤ 65536 ∧ q1.length ≤ 65536
  case neg => rw [if_neg c2] at h; cases h
  rw [if_pos c2] at h
  by_cases hq : q1.length = 0
  · rw [if_pos hq] at h
    have e := Option.some.inj h
    obtain ⟨g1, g⟩ := Prod.mk.inj e
    obtain ⟨g2, g3⟩ := Prod.mk.inj g
    subst g1 g2 g3
    exact hk_dr.zero k A0 c0 l0 A1 c1 l1 p1 q1 w hr0 hc0 hr1 hc1 c.1 c.2 t1 t2 hq
  rw [if_neg hq] at h
  by_cases hm : (p1.length : Int) - (q1.length : Int) + 1 < 1
  · rw [if_pos hm] at h
    have e := Option.some.inj h
    obtain ⟨g1, g⟩ := Prod.mk.inj e
    obtain ⟨g2, g3⟩ := Prod.mk.inj g
    subst g1 g2 g3
    exact hk_dr.short k A0 c0 l0 A1 c1 l1 p1 q1 _ w hr0 hc0 hr1 hc1 c.1 c.2 t1 t2 c2.1 c2.2 (by omega) rfl hm
  rw [if_neg hm] at h
  obtain ⟨tp, t3, h⟩ := Option.bind_eq_some_iff.1 h
  obtain ⟨tq, t4, h⟩ := Option.bind_eq_some_iff.1 h
  obtain ⟨iv, t5, h⟩ := Option.bind_eq_some_iff.1 h
  obtain ⟨ml, t6, h⟩ := Option.bind_eq_some_iff.1 h
  obtain ⟨tm, t7, h⟩ := Option.bind_eq_some_iff.1 h
  obtain ⟨quo, t8, h⟩ := Option.bind_eq_some_iff.1 h
  obtain ⟨⟨pr, pe⟩, t9, h⟩ := Option.bind_eq_some_iff.1 h
  obtain ⟨rest, t10, h⟩ := Option.bind_eq_some_iff.1 h
  have e := Option.some.inj h
  obtain ⟨g1, g⟩ := Prod.mk.inj e
  obtain ⟨g2, g3⟩ := Prod.mk.inj g
  subst g1 g2 g3
  exact hk_dr.good k A0 c0 l0 A1 c1 l1 p1 q1 tp tq iv ml tm quo pr rest _ pe w hr0 hc0 hr1 hc1 c.1 c.2 t1 t2 c2.1 c2.2 (by omega) rfl hm t3 t4 t5 t6 t7 t8 t9 t10

/-! ### tree_rest: function 31 -/
def tree_rest.f (k : Nat) (l0 : List Int) (l1 : List Int) : Option (List Int) := (series_DivRest.f k l0 l1).bind fun bt339 => (some bt339.2.1)
set_option maxHeartbeats 8000000 in
set_option maxRecDepth 100000 in
theorem tree_rest.calls (k : Nat) (A0 : Option Addr) (c0 : Nat) (l0 : List Int) (A1 : Option Addr) (c1 : Nat) (l1 : List Int) (r : List Int) (w : World) (hr0 : Kd.C (Kd.int .u64) w A0 l0.length l0) (hc0 : l0.length ≤ c0) (hr1 : Kd.C (Kd.int .u64) w A1 l1.length l1) (hc1 : l1.length ≤ c1) (h : tree_rest.f k l0 l1 = some r) :
    Calls Try.prog 31 #[.slice A0 l0.length c0, .slice A1 l1.length c1] w fun e w' => ∃ v0_ : Value, e = .returned (v0_) ∧ Kd.R (Kd.int .u64) 29 w' w.heap.size (fun _ => True) v0_ r ∧ Below w.heap.size w w' := by
  have HR0 := Aside0.mk hr0
  have HC0 := Aside0.mk hc0
  clear hr0 hc0
  have HR1 := Aside0.mk hr1
  have HC1 := Aside0.mk hc1
  clear hr1 hc1
  have HB := Aside0.mk (Below.refl w.heap.size w)
  have H : ((series_DivRest.f k l0 l1).bind fun bt339 => (some bt339.2.1)) = some r := h
  clear h
  replace H := Option.bind_eq_some_iff.mp H
  obtain ⟨⟨t339, t340, t341⟩, A30, H⟩ := H
  replace H : (some t340) = some r := H
  have A3 := Aside0.mk A30
  clear A30
  obtain rfl := Option.some.inj H
  go_enter Try.func31, Try.ntmps31
  go_wp2_with (first | ((with_reducible refine gate_callee (f := 41) rfl ?_); refine goesL_ (some 11) rfl rfl Try.func41 (by kernel_rfl) rfl #[.slice A0 l0.length c0, .slice A1 l1.length c1] rfl (by (try simp only [List.map_toArray, List.map_cons, List.map_nil]); first | done | rfl | (simp only [List.length_drop, List.length_take]; rfl)) ?_; (with_reducible refine (series_DivRest.calls k _ _ l0 _ _ l1 t339 t340 t341 _ ?side1 ?side2 ?side3 ?side4 A3.out).mono ?_); (case side1 => repeat (first | exact HR0.out | (with_reducible refine Kd.C_alloc ?_ _) | (with_reducible refine Kd.C_drewN ?_ _) | (with_reducible refine Kd.C_drew ?_))); (case side2 => exact HC0.out); (case side3 => repeat (first | exact HR1.out | (with_reducible refine Kd.C_alloc ?_ _) | (with_reducible refine Kd.C_drewN ?_ _) | (with_reducible refine Kd.C_drew ?_))); (case side4 => exact HC1.out); rintro e w4 ⟨v342, v344, rfl, ho0, ho1, hb⟩; refine ⟨_, rfl, ?_⟩; have n0_ := Aside0.mk (Kd.R_lower ho0 (below_size (by repeat (first | (with_reducible first | exact HB.out | apply below_alloc | apply pw_below_drewN | apply below_drew1) | exact HB.out)))); have n1_ := Aside0.mk (Kd.R_lower ho1 (below_size (by repeat (first | (with_reducible first | exact HB.out | apply below_alloc | apply pw_below_drewN | apply below_drew1) | exact HB.out)))); have n2_ := Aside0.mk (below_step (by repeat (first | (with_reducible first | exact HB.out | apply below_alloc | apply pw_below_drewN | apply below_drew1) | exact HB.out)) hb); clear HB; have HO343 := n0_; have HO345 := n1_; have HB := n2_; clear n0_ n1_ n2_; (try clear hb); (try clear hb2); (try clear hk); (try clear hi); (try clear ho0); (try clear ho1)))
  go_ret
  exact ⟨_, by first | rfl | (simp [errW_none, errW_some] <;> rfl) | (simp [*, errW_none, errW_some] <;> rfl), by (with_reducible repeat (first | apply Kd.R_alloc | apply Kd.R_drewN | apply Kd.R_drew)); exact Kd.R_mono HO345.out (fun _ hk => trivial), by repeat (first | (with_reducible first | exact HB.out | apply below_alloc | apply pw_below_drewN | apply below_drew1) | exact HB.out)⟩

/-! ### poly_At: function 32 -/
def poly_At.l0 : Nat → List Int → Int → Int → Int → Option (Int)
  | 0, _, _, _, _ => none
  | k + 1, x0, x1, x5, x6 => if x6 ≥ 0 then ((gold_Mul.f x5 x1).bind fun t346 => (if 0 ≤ x6 then (if x6 < (x0.length : Int) then ((gold_Add.f t346 (rd x0 x6)).bind fun t348 => (poly_At.l0 k x0 x1 t348 (wrap64 (x6 - 1)))) else (none)) else (none))) else (some x5)
def poly_At.f (k : Nat) (l0 : List Int) (a1 : Int) : Option (Int) := poly_At.l0 k l0 a1 0 (wrap64 ((l0.length : Int) - 1))
def poly_At.T5 : Bool × List (List Nat × List Nat) := (true, [([], []), ([], []), ([0, 1], [0, 1]), ([], []), ([], []), ([3, 4], [3, 4]), ([5], [5]), ([2, 6, 2], [2, 6]), ([7, 7, 0, 1, 2, 3, 4, 5, 6, 7], [0, 7])])
def poly_At.B5 : List Nat := [0, 0, 3, 0, 0, 24, 56, 127, 255]
theorem poly_At.tab5 : rtab .any (opsOf Try.f32 5) = poly_At.T5 := by kernel_rfl
theorem poly_At.bits5 : waitsOk poly_At.T5.2 poly_At.B5 = true := by kernel_rfl
set_option maxHeartbeats 8000000 in
set_option maxRecDepth 100000 in
theorem poly_At.calls (k : Nat) (A0 : Option Addr) (c0 : Nat) (l0 : List Int) (a1 : Int) (r : Int) (w : World) (hr0 : Kd.C (Kd.int .u64) w A0 l0.length l0) (hc0 : l0.length ≤ c0) (h : poly_At.f k l0 a1 = some r) :
    Calls Try.prog 32 #[.slice A0 l0.length c0, .int .u64 a1] w fun e w' => e = .returned (.int .u64 r) ∧ Below w.heap.size w w' := by
  have HR0 := Aside0.mk hr0
  have HC0 := Aside0.mk hc0
  clear hr0 hc0
  have HB := Aside0.mk (Below.refl w.heap.size w)
  have H : (poly_At.l0 k l0 a1 0 (wrap64 ((l0.length : Int) - 1))) = some r := h
  clear h
  have H' := Aside0.mk H
  clear H
  go_enter Try.func32, Try.ntmps32
  go_wp2
  go_loopg [5, 6] k (fun kq v5 v6 w' => ∃ (x5_1 : Int) (x6_1 : Int), v5 = .int .u64 x5_1 ∧ v6 = .int .i64 x6_1 ∧ Aside0 (poly_At.l0 kq l0 a1 x5_1 x6_1 = some r) ∧ Aside0 (kq ≤ k) ∧ Aside0 (Below w.heap.size w w'))
  case atStart => exact ⟨(0), (wrap64 ((l0.length : Int) - 1)), (by first | rfl | (simp; done) | (simp [*]; done)), (by first | rfl | (simp; done) | (simp [*]; done)), H', ⟨Nat.le_refl _⟩, ⟨by repeat (first | (with_reducible first | exact HB.out | apply below_alloc | apply pw_below_drewN | apply below_drew1) | exact HB.out)⟩⟩
  case round =>
    clear H'
    try clear p2
    obtain ⟨x5_1, x6_1, rfl, rfl, HA, HK1, HB⟩ := hrel
    cases gk with
    | zero => exact absurd HA.out (by simp [poly_At.l0])
    | succ k1 =>
      have H := HA.out
      clear HA
      simp only [poly_At.l0] at H
      by_cases c3 : x6_1 ≥ 0
      · rw [if_pos c3] at H
        have c3b0 : decide (0 ≤ x6_1) = true := decide_eq_true c3
        clear c3
        replace H := Option.bind_eq_some_iff.mp H
        obtain ⟨t346, A40, H⟩ := H
        replace H : (if 0 ≤ x6_1 then (if x6_1 < (l0.length : Int) then ((gold_Add.f t346 (rd l0 x6_1)).bind fun t348 => (poly_At.l0 k1 l0 a1 t348 (wrap64 (x6_1 - 1)))) else (none)) else (none)) = some r := H
        have A4 := Aside0.mk A40
        clear A40
        by_cases c5 : 0 ≤ x6_1
        · rw [if_pos c5] at H
          have c5b0 : decide (0 ≤ x6_1) = true := decide_eq_true c5
          clear c5
          by_cases c6 : x6_1 < (l0.length : Int)
          · rw [if_pos c6] at H
            have c6b0 : decide (x6_1 < (l0.length : Int)) = true := decide_eq_true c6
            clear c6
            replace H := Option.bind_eq_some_iff.mp H
            obtain ⟨t348, A70, H⟩ := H
            replace H : (poly_At.l0 k1 l0 a1 t348 (wrap64 (x6_1 - 1))) = some r := H
            have A7 := Aside0.mk A70
            clear A70
            have H' := Aside0.mk H
            clear H
            try go_wp2
            have n0_ := Aside0.mk (below_drew1 HB.out)
            clear HB
            have HB := n0_
            clear n0_
            have p347 : 0 ≤ (x6_1 : Int) := of_decide_eq_true (by first | (with_reducible assumption) | assumption)
            have q347 : x6_1 < (l0.length : Int) := of_decide_eq_true (by first | (with_reducible assumption) | assumption)
            obtain ⟨ad347, e347, hx347_0⟩ := Kd.at_int HR0.out x6_1 p347 q347
            have hw347_0 := hx347_0
            cases e347
            replace hx347_0 := (HB.out.cell (World.block_lt_of_cell? w _ hx347_0)).trans hx347_0
            replace p347 := eq_true p347
            replace q347 := eq_true q347
            refine start_ (n := 9) (S := fun w' => w'.cell? (ad347.add (x6_1).toNat) = some (.int .u64 (rd l0 x6_1))) (ds := []) #[false, false, false, false, false, false, false, false, false] (by kernel_rfl) rfl rfl (((HB.out.cell (World.block_lt_of_cell? w _ hw347_0)).trans hw347_0)) (fun hHeld => ?_); refine with_tabW poly_At.tab5 poly_At.bits5 (fun HT_ HW_ => ?_)
            generalize wr.drew = w8 at HB hx347_0 hHeld ⊢
            refine pure_ (i := 0) (N := some 14) (v := ?_) (a' := ?_) #[true, false, false, false, false, false, false, false, false] rfl rfl (any_of HT_.out (by kernel_rfl)) (fun _ _ _ h => h) (Or.inl ⟨by rfl, ?_⟩) ?_ ?_
            rotate_left
            · intro w'
              go_simp
              with_reducible rfl
            rotate_left
            · simp only [Act.put, List.setIfInBounds_toArray, List.set_cons_zero, List.set_cons_succ, i64_w, i32_w]
              rfl
            refine pure_ (i := 1) (N := some 15) (v := ?_) (a' := ?_) #[true, true, false, false, false, false, false, false, false] rfl rfl (any_of HT_.out (by kernel_rfl)) (fun _ _ _ h => h) (Or.inl ⟨by rfl, ?_⟩) ?_ ?_
            rotate_left
            · intro w'
              go_simp
              with_reducible rfl
            rotate_left
            · simp only [Act.put, List.setIfInBounds_toArray, List.set_cons_zero, List.set_cons_succ, i64_w, i32_w]
              rfl
            refine pure_ (i := 3) (N := some 17) (v := ?_) (a' := ?_) #[true, true, false, true, false, false, false, false, false] rfl rfl (any_of HT_.out (by kernel_rfl)) (fun _ _ _ h => h) (Or.inl ⟨by rfl, ?_⟩) ?_ ?_
            rotate_left
            · intro w'
              go_simp
              with_reducible rfl
            rotate_left
            · simp only [Act.put, List.setIfInBounds_toArray, List.set_cons_zero, List.set_cons_succ, i64_w, i32_w]
              rfl
            refine pure_ (i := 4) (N := some 18) (v := ?_) (a' := ?_) #[true, true, false, true, true, false, false, false, false] rfl rfl (any_of HT_.out (by kernel_rfl)) (fun _ _ _ h => h) (Or.inl ⟨by rfl, ?_⟩) ?_ ?_
            rotate_left
            · intro w'
              go_simp
              with_reducible rfl
            rotate_left
            · simp only [Act.put, List.setIfInBounds_toArray, List.set_cons_zero, List.set_cons_succ, i64_w, i32_w]
              rfl
            refine pure_ (i := 5) (N := some 19) (v := ?_) (a' := ?_) #[true, true, false, true, true, true, false, false, false] rfl rfl (any_of HT_.out (by kernel_rfl)) (fun _ _ _ h => h) (Or.inl ⟨by rfl, ?_⟩) ?_ ?_
            rotate_left
            · intro w'
              go_simp
              with_reducible rfl
            rotate_left
            · simp only [Act.put, List.setIfInBounds_toArray, List.set_cons_zero, List.set_cons_succ, i64_w, i32_w]
              rfl
            refine take_ (i := 6) (N := some 20) (v := ?_) (a' := ?_) #[true, true, false, true, true, true, true, false, false] rfl rfl (take_ofW HT_.out HW_.out (by kernel_rfl)) (fun _ _ _ h => h) (Or.inl ⟨by rfl, ?_⟩) hHeld ?_ ?_
            rotate_left
            · intro w' s0
              go_simp
              with_reducible rfl
            rotate_left
            · simp only [Act.put, List.setIfInBounds_toArray, List.set_cons_zero, List.set_cons_succ, i64_w, i32_w]
              rfl
            refine one_ (i := 2) (N := some 16) #[true, true, true, true, true, true, true, false, false] rfl rfl (one_of HT_.out (by kernel_rfl)) (by decide) (fun K hK => ?_)
            refine goes_ Try.func28 (by kernel_rfl) rfl #[.int .u64 x5_1, .int .u64 a1] (by rfl) rfl rfl (by (try simp only [List.map_toArray, List.map_cons, List.map_nil]); first | done | rfl | (simp only [List.length_drop, List.length_take]; rfl)) ?_
            with_reducible refine (gold_Mul.calls x5_1 a1 t346 _ A4.out).mono ?_
            rintro e w9 ⟨rfl, hb⟩
            refine ⟨_, rfl, ?_⟩
            have n0_ := Aside0.mk (below_step (by repeat (first | (with_reducible first | exact HB.out | apply below_alloc | apply pw_below_drewN | apply below_drew1) | exact HB.out)) hb)
            clear HB
            have HB := n0_
            clear n0_
            (try clear hb)
            (try clear hb2)
            (try clear hk)
            (try clear hi)
            refine hK.out _ _ (((HB.out.cell (World.block_lt_of_cell? w _ hw347_0)).trans hw347_0)) (fun hHeld => ?_)
            clear hK K
            refine norm_ (a' := ?_) ?_ ?_
            rotate_left
            · show Act.put _ (some 16) _ = _
              simp only [Act.put, List.setIfInBounds_toArray, List.set_cons_zero, List.set_cons_succ, i64_w, i32_w]
              rfl
            refine one_ (i := 7) (N := some 21) #[true, true, true, true, true, true, true, true, false] rfl rfl (one_of HT_.out (by kernel_rfl)) (by decide) (fun K hK => ?_)
            refine goes_ Try.func29 (by kernel_rfl) rfl #[.int .u64 t346, .int .u64 (rd l0 x6_1)] (by rfl) rfl rfl (by (try simp only [List.map_toArray, List.map_cons, List.map_nil]); first | done | rfl | (simp only [List.length_drop, List.length_take]; rfl)) ?_
            with_reducible refine (gold_Add.calls t346 (rd l0 x6_1) t348 _ A7.out).mono ?_
            rintro e w10 ⟨rfl, hb⟩
            refine ⟨_, rfl, ?_⟩
            have n0_ := Aside0.mk (below_step (by repeat (first | (with_reducible first | exact HB.out | apply below_alloc | apply pw_below_drewN | apply below_drew1) | exact HB.out)) hb)
            clear HB
            have HB := n0_
            clear n0_
            (try clear hb)
            (try clear hb2)
            (try clear hk)
            (try clear hi)
            refine hK.out _ _ (((HB.out.cell (World.block_lt_of_cell? w _ hw347_0)).trans hw347_0)) (fun hHeld => ?_)
            clear hK K
            refine norm_ (a' := ?_) ?_ ?_
            rotate_left
            · show Act.put _ (some 21) _ = _
              simp only [Act.put, List.setIfInBounds_toArray, List.set_cons_zero, List.set_cons_succ, i64_w, i32_w]
              rfl
            refine pure_ (i := 8) (N := some 5) (v := ?_) (a' := ?_) #[true, true, true, true, true, true, true, true, true] rfl rfl (any_of HT_.out (by kernel_rfl)) (fun _ _ _ h => h) (Or.inl ⟨by rfl, ?_⟩) ?_ ?_
            rotate_left
            · intro w'
              go_simp
              with_reducible rfl
            rotate_left
            · simp only [Act.put, List.setIfInBounds_toArray, List.set_cons_zero, List.set_cons_succ, i64_w, i32_w]
              rfl
            refine done_ (done_of HT_.out (by kernel_rfl)) ?_
            try go_wp2
            (first | go_roundg k1 | (simp only [add_plain] at *; go_roundg k1))
            case measure => have := HK1.out; omega
            case rel => exact ⟨(t348), (wrap64 (x6_1 - 1)), (by first | rfl | (simp; done) | (simp [*]; done)), (by first | rfl | (simp; done) | (simp [*]; done)), H', ⟨by have := HK1.out; omega⟩, ⟨by repeat (first | (with_reducible first | exact HB.out | apply below_alloc | apply pw_below_drewN | apply below_drew1) | exact HB.out)⟩⟩
          · rw [if_neg c6] at H
            exact absurd H (by simp)
        · rw [if_neg c5] at H
          exact absurd H (by simp)
      · rw [if_neg c3] at H
        have c3b0 : decide (0 ≤ x6_1) = false := decide_eq_false c3
        clear c3
        obtain rfl := Option.some.inj H
        go_wp2
        go_ret
        exact ⟨by first | rfl | (simp [errW_none, errW_some] <;> rfl) | (simp [*, errW_none, errW_some] <;> rfl), by repeat (first | (with_reducible first | exact HB.out | apply below_alloc | apply pw_below_drewN | apply below_drew1) | exact HB.out)⟩

end Go.Proofs.Ytkgakohgbbapaaa.PTreeThrough
