-- Written for this claim by wip/gen/mk.sh, this session's own driver over the kit's print
import Derived.Test.YtkgakohgbbapaaaPTreeValuesx0
import Derived.Test.YtkgakohgbbapaaaPTreeValuesx1
import Derived.Test.YtkgakohgbbapaaaPTreeValuesx2
import Derived.Test.YtkgakohgbbapaaaPTreeValuesx3
import Derived.Test.YtkgakohgbbapaaaPTreeValuesx5
namespace Go.Proofs.Ytkgakohgbbapaaa.PTreeValues
open Go.RowKit Go.Proofs.YtkgakohgbbapaaaW.PrintWords Go.Proofs.YtkgakohgbbapaaaW.PrintLast Go.Proofs.YtkgakohgbbapaaaW.PrintMore
attribute [local go_sem] max2_int min2_int max_two min_two max_three min_three max_four min_four   -- for this text's walks alone
set_option linter.unusedVariables false
set_option linter.unusedSimpArgs false

/-! ### series_cut: function 60 -/
def series_cut.l0 : Nat → List Int → List Int → Int → Int → Option (List Int)
  | 0, _, _, _, _ => none
  | k + 1, x0, x5, x12, x13 => if x13 < x12 then (if 0 ≤ x13 then (if x13 < (x0.length : Int) then ((gold_Of.f (rd x0 x13)).bind fun t276 => (if x13 < (x5.length : Int) then (series_cut.l0 k x0 (x5.set (x13 : Int).toNat t276) x12 (wrap64 (x13 + 1))) else (none))) else (none)) else (none)) else (some x5)
def series_cut.f (k : Nat) (l0 : List Int) (a1 : Int) : Option (List Int) := if 0 ≤ a1 then (if (a1 : Int).toNat ≤ 35184372088832 then (series_cut.l0 k l0 (List.replicate (a1 : Int).toNat 0) (mn a1 (l0.length : Int)) 0) else (none)) else (none)
set_option maxHeartbeats 8000000 in
set_option maxRecDepth 100000 in
theorem series_cut.calls (k : Nat) (A0 : Option Addr) (c0 : Nat) (l0 : List Int) (a1 : Int) (r : List Int) (w : World) (hr0 : Kd.C (Kd.int .u64) w A0 l0.length l0) (hc0 : l0.length ≤ c0) (h : series_cut.f k l0 a1 = some r) :
    Calls Try.prog 60 #[.slice A0 l0.length c0, .int .i64 a1] w fun e w' => ∃ v0_ : Value, e = .returned (v0_) ∧ Kd.R (Kd.int .u64) 29 w' w.heap.size (fun _ => True) v0_ r ∧ Below w.heap.size w w' := by
  have HR0 := Aside0.mk hr0
  have HC0 := Aside0.mk hc0
  clear hr0 hc0
  have HB := Aside0.mk (Below.refl w.heap.size w)
  have H : (if 0 ≤ a1 then (if (a1 : Int).toNat ≤ 35184372088832 then (series_cut.l0 k l0 (List.replicate (a1 : Int).toNat 0) (mn a1 (l0.length : Int)) 0) else (none)) else (none)) = some r := h
  clear h
  by_cases c3 : 0 ≤ a1
  · rw [if_pos c3] at H
    have c3b0 := eq_true c3
    have c3b1 : decide (0 ≤ a1) = true := decide_eq_true c3
    clear c3
    by_cases c4 : (a1 : Int).toNat ≤ 35184372088832
    · rw [if_pos c4] at H
      have c4b0 := eq_true c4
      have c4b1 : decide ((a1 : Int).toNat ≤ 35184372088832) = true := decide_eq_true c4
      clear c4
      obtain ⟨y272, hy272⟩ : ∃ y_ : List Int, y_ = (List.replicate (a1 : Int).toNat 0) := ⟨_, rfl⟩
      replace H : (series_cut.l0 k l0 y272 (mn a1 (l0.length : Int)) 0) = some r := by first | (rw [hy272]; with_reducible exact H) | (have H2_ := (Option.bind_some _ _).symm.trans H; rw [hy272]; with_reducible exact H2_) | (have H2_ := (Option.bind_some _ _).symm.trans H; with_reducible exact H2_) | with_reducible exact H | (rw [hy272]; exact H) | exact H
      have Ny272 := Aside0.mk hy272
      clear hy272
      obtain ⟨ji5, hji5⟩ : ∃ j_ : Int, (mn a1 (l0.length : Int)) = j_ := ⟨_, rfl⟩
      replace H : (series_cut.l0 k l0 y272 ji5 0) = some r := by first | (rw [hji5] at H; exact H) | (simp only [hji5] at H ⊢; exact H)
      have hji5_ : (if (l0.length : Int) < a1 then (l0.length : Int) else a1) = ji5 := hji5
      have H' := Aside0.mk H
      clear H
      go_enter Try.func60, Try.ntmps60
      go_wp2_with (first | ((with_reducible refine gate_dst (N := 8) rfl ?_); refine Kd.R_make (Kd.int .u64) _ 29 rfl (N := 8) rfl 22 _ _ rfl a1 rfl rfl Try.underlying22 (.int .u64 0) 8 info29 rfl (by decide) (by omega) 0 (ok := fun _ => True) (okp := fun _ => True) rfl (fun _ hk => hk) trivial (of_decide_eq_true (by first | (with_reducible assumption) | assumption)) (Nat.le_trans (Nat.mul_le_mul_right _ (of_decide_eq_true (by first | (with_reducible assumption) | assumption) : a1.toNat ≤ 35184372088832)) (by omega)) (Below.refl _ _) (Nat.le_refl _) ?_; intro v273 w6 ho7 hb hg_ hnew_; clear hg_ hnew_; (first | rw [← Ny272.out] at ho7 | (simp only [Int.reduceToNat] at ho7; rw [← Ny272.out] at ho7)); have n0_ := Aside0.mk (Kd.R_lower ho7 (below_size (by repeat (first | (with_reducible first | exact HB.out | apply below_alloc | apply pw_below_drewN | apply below_drew1) | exact HB.out)))); have n1_ := Aside0.mk (below_step (by repeat (first | (with_reducible first | exact HB.out | apply below_alloc | apply pw_below_drewN | apply below_drew1) | exact HB.out)) hb); clear HB; have HO274 := n0_; have HB := n1_; clear n0_ n1_; clear hb ho7))
      go_loopg [13] k (fun kq v13 w' => ∃ (x5_1 : List Int) (x13_1 : Int), v13 = .int .i64 x13_1 ∧ Aside0 (series_cut.l0 kq l0 x5_1 ji5 x13_1 = some r) ∧ Aside0 (kq ≤ k) ∧ Aside0 (Kd.R (Kd.int .u64) 29 w' w.heap.size (fun _ => True) v273 x5_1) ∧ Aside0 (Below w.heap.size w w'))
      case atStart => exact ⟨(y272), (0), (by first | rfl | (simp; done) | (simp [*]; done)), H', ⟨Nat.le_refl _⟩, ⟨by (with_reducible repeat (first | apply Kd.R_alloc | apply Kd.R_drewN | apply Kd.R_drew)); exact HO274.out⟩, ⟨by repeat (first | (with_reducible first | exact HB.out | apply below_alloc | apply pw_below_drewN | apply below_drew1) | exact HB.out)⟩⟩
      case round =>
        clear H'
        try clear p2
        try clear c3
        try clear c3b0
        try clear c3b1
        try clear c4
        try clear c4b0
        try clear c4b1
        try clear c6
        obtain ⟨x5_1, x13_1, rfl, HA, HK1, HO_5, HB⟩ := hrel
        cases gk with
        | zero => exact absurd HA.out (by simp [series_cut.l0])
        | succ k1 =>
          have H := HA.out
          clear HA
          simp only [series_cut.l0] at H
          by_cases c8 : x13_1 < ji5
          · rw [if_pos c8] at H
            have c8b0 : decide (x13_1 < ji5) = true := decide_eq_true c8
            clear c8
            by_cases c9 : 0 ≤ x13_1
            · rw [if_pos c9] at H
              have c9b0 : decide (0 ≤ x13_1) = true := decide_eq_true c9
              clear c9
              by_cases c10 : x13_1 < (l0.length : Int)
              · rw [if_pos c10] at H
                have c10b0 : decide (x13_1 < (l0.length : Int)) = true := decide_eq_true c10
                clear c10
                replace H := Option.bind_eq_some_iff.mp H
                obtain ⟨t276, A110, H⟩ := H
                replace H : (if x13_1 < (x5_1.length : Int) then (series_cut.l0 k1 l0 (x5_1.set (x13_1 : Int).toNat t276) ji5 (wrap64 (x13_1 + 1))) else (none)) = some r := H
                have A11 := Aside0.mk A110
                clear A110
                by_cases c12 : x13_1 < (x5_1.length : Int)
                · rw [if_pos c12] at H
                  have c12b0 : decide (x13_1 < (x5_1.length : Int)) = true := decide_eq_true c12
                  clear c12
                  obtain ⟨y277, hy277⟩ : ∃ y_ : List Int, y_ = (x5_1.set (x13_1 : Int).toNat t276) := ⟨_, rfl⟩
                  replace H : (series_cut.l0 k1 l0 y277 ji5 (wrap64 (x13_1 + 1))) = some r := by first | (rw [hy277]; with_reducible exact H) | (have H2_ := (Option.bind_some _ _).symm.trans H; rw [hy277]; with_reducible exact H2_) | (have H2_ := (Option.bind_some _ _).symm.trans H; with_reducible exact H2_) | with_reducible exact H | (rw [hy277]; exact H) | exact H
                  have Ny277 := Aside0.mk hy277
                  clear hy277
                  have H' := Aside0.mk H
                  clear H
                  have p275 : 0 ≤ (x13_1 : Int) := of_decide_eq_true (by first | (with_reducible assumption) | assumption)
                  have q275 : x13_1 < (l0.length : Int) := of_decide_eq_true (by first | (with_reducible assumption) | assumption)
                  obtain ⟨ad275, e275, hx275_0⟩ := Kd.at_int HR0.out x13_1 p275 q275
                  cases e275
                  replace hx275_0 := (HB.out.cell (World.block_lt_of_cell? w _ hx275_0)).trans hx275_0
                  replace p275 := eq_true p275
                  replace q275 := eq_true q275
                  go_wp2_with (first | ((with_reducible refine gate_callee (f := 23) rfl ?_); refine goesL_ (some 22) rfl rfl Try.func23 (by kernel_rfl) rfl #[.int .u64 (rd l0 x13_1)] rfl (by (try simp only [List.map_toArray, List.map_cons, List.map_nil]); first | done | rfl | (simp only [List.length_drop, List.length_take]; rfl)) ?_; (with_reducible refine (gold_Of.calls (rd l0 x13_1) t276 _ A11.out).mono ?_); rintro e w' ⟨rfl, ⟨nd, rfl⟩⟩; refine ⟨_, rfl, ?_⟩; (try (rw [drewN_self wr]; generalize hq_ : World.drewN wr _ = wr; have n0_ : Aside0 (Kd.R (Kd.int .u64) 29 wr w.heap.size (fun _ => True) v273 x5_1) := ⟨by rw [← hq_]; exact (by (with_reducible repeat (first | apply Kd.R_alloc | apply Kd.R_drewN | apply Kd.R_drew)); exact HO_5.out)⟩; have n1_ : Aside0 (Below w.heap.size w wr) := ⟨by rw [← hq_]; exact (by repeat (first | (with_reducible first | exact HB.out | apply below_alloc | apply pw_below_drewN | apply below_drew1) | exact HB.out))⟩; clear HO_5 HB hq_; have HO_5 := n0_; have HB := n1_; clear n0_ n1_)); have p13 : 0 ≤ (x13_1 : Int) := of_decide_eq_true (by first | (with_reducible assumption) | assumption); have q13 : (x13_1 : Int) < ((x5_1.length : Int) : Int) := of_decide_eq_true (by first | (with_reducible assumption) | assumption); obtain ⟨go13, co13, eo13, gb13, gl13, cl13, HG13⟩ := Kd.R_form HO_5.out (by omega); (first | cases eo13 | (injection eo13 with ea_ en_ ec_; (first | subst ea_ | (injection ea_ with ea_; subst ea_)); subst ec_; clear en_)); have GB13 := Aside0.mk gb13; have GG13 := Aside0.mk HG13; clear gb13 gl13 HG13; obtain ⟨hx13_0, hf13_0⟩ := Kd.R_celln 0 HO_5.out (x13_1 : Int) p13 q13; replace p13 := eq_true p13; replace q13 := eq_true q13; obtain ⟨hy14_, hz14_⟩ := Kd.R_celln 0 HO_5.out (x13_1 : Int) (of_decide_eq_true (by first | (with_reducible assumption) | assumption)) (of_decide_eq_true (by first | (with_reducible assumption) | assumption)); have HP14 := Kd.R_putg HO_5.out (x13_1 : Int) t276) | ((with_reducible refine gate_store (t := 29) (p := 23) rfl ?_); refine store_event (t := 29) (p := 23) (v := ?vo_w15) (w1 := (wr.setCell ⟨go13, (x13_1 : Int).toNat, none⟩ (.int .u64 t276))) ?hg ?ho ?hn ?hr ?_; (case ho => rfl); (case hg => rfl); (case hn => rfl); (case hr => first | (go_simp; done) | (go_simp; rfl)); intro w15 hw; have hg : wr.grownBy w15 (some go13) := (by rw [hw]; exact HP14.2); have hp_ : Kd.R (Kd.int .u64) 29 w15 w.heap.size (fun _ => True) (.slice (some ⟨go13, 0, none⟩) x5_1.length co13) y277 := (by rw [hw, Ny277.out]; exact HP14.1); clear HP14; have n0_ := Aside0.mk (hp_); have n1_ := Aside0.mk ((by rw [hw]; exact below_set (HB.out) GB13.out : Below w.heap.size w w15)); clear HO_5; clear HB; have HO_5 := n0_; have HB := n1_; clear n0_ n1_; clear hg hw hp_))
                  (first | go_roundg k1 | (simp only [add_plain] at *; go_roundg k1))
                  case measure => have := HK1.out; omega
                  case rel => exact ⟨(y277), (wrap64 (x13_1 + 1)), (by first | rfl | (simp; done) | (simp [*]; done)), H', ⟨by have := HK1.out; omega⟩, ⟨by (with_reducible repeat (first | apply Kd.R_alloc | apply Kd.R_drewN | apply Kd.R_drew)); exact HO_5.out⟩, ⟨by repeat (first | (with_reducible first | exact HB.out | apply below_alloc | apply pw_below_drewN | apply below_drew1) | exact HB.out)⟩⟩
                · rw [if_neg c12] at H
                  exact absurd H (by simp)
              · rw [if_neg c10] at H
                exact absurd H (by simp)
            · rw [if_neg c9] at H
              exact absurd H (by simp)
          · rw [if_neg c8] at H
            have c8b0 : decide (x13_1 < ji5) = false := decide_eq_false c8
            clear c8
            obtain rfl := Option.some.inj H
            go_wp2
            go_ret
            exact ⟨_, by first | rfl | (simp [errW_none, errW_some] <;> rfl) | (simp only [← hji5]; first | rfl | (simp [errW_none, errW_some] <;> rfl)) | (simp [*, errW_none, errW_some] <;> rfl), by (with_reducible repeat (first | apply Kd.R_alloc | apply Kd.R_drewN | apply Kd.R_drew)); exact HO_5.out, by repeat (first | (with_reducible first | exact HB.out | apply below_alloc | apply pw_below_drewN | apply below_drew1) | exact HB.out)⟩
    · rw [if_neg c4] at H
      exact absurd H (by simp)
  · rw [if_neg c3] at H
    exact absurd H (by simp)

/-! ### series_mul: function 49 -/
def series_mul.f (k : Nat) (l0 : List Int) (l1 : List Int) (a2 : Int) : Option (List Int) := if 0 ≤ (mn (l0.length : Int) a2) then (if (mn (l0.length : Int) a2) ≤ (l0.length : Int) then (if 0 ≤ (mn (l1.length : Int) a2) then (if (mn (l1.length : Int) a2) ≤ (l1.length : Int) then ((conv_Product.f k (([(l0.take ((mn (l0.length : Int) a2) : Int).toNat), (l1.take ((mn (l1.length : Int) a2) : Int).toNat)] : List (List Int)))).bind fun bt291 => ((series_cut.f k bt291.1 a2).bind fun t295 => (some t295))) else (none)) else (none)) else (none)) else (none)
def series_mul.T1 : Bool × List (List Nat × List Nat) := (true, [([], []), ([], []), ([1], [1]), ([], []), ([2, 3], [2, 3]), ([0, 4], [0, 4]), ([], []), ([], []), ([7], [7]), ([], []), ([8, 9], [8, 9]), ([6, 10], [6, 10]), ([5, 11], [5, 11]), ([12], [12]), ([13], [13]), ([14], [14]), ([14], [14]), ([15, 13, 0, 1, 2, 3, 4, 5, 6, 7, 8, 9, 10, 11, 12, 13, 14, 15], [15]), ([16, 17, 0, 1, 2, 3, 4, 5, 6, 7, 8, 9, 10, 11, 12, 13, 14, 15, 16, 17], [16])])
def series_mul.B1 : List Nat := [0, 0, 2, 0, 14, 31, 0, 0, 128, 0, 896, 1984, 4095, 8191, 16383, 32767, 32767, 65535, 262143]
theorem series_mul.tab1 : rtab .any (opsOf Try.f49 1) = series_mul.T1 := by kernel_rfl
theorem series_mul.bits1 : waitsOk series_mul.T1.2 series_mul.B1 = true := by kernel_rfl
set_option maxHeartbeats 8000000 in
set_option maxRecDepth 100000 in
theorem series_mul.calls (k : Nat) (P0_ : Nat → Prop) (A0 : Option Addr) (c0 : Nat) (l0 : List Int) (P1_ : Nat → Prop) (A1 : Option Addr) (c1 : Nat) (l1 : List Int) (a2 : Int) (r : List Int) (w : World) (hs0 : Kd.V (Kd.int .u64) 29 w w.heap.size (fun k_ => P0_ k_) (.slice A0 l0.length c0) l0) (hs1 : Kd.V (Kd.int .u64) 29 w w.heap.size (fun k_ => P1_ k_) (.slice A1 l1.length c1) l1) (h : series_mul.f k l0 l1 a2 = some r) :
    Calls Try.prog 49 #[.slice A0 l0.length c0, .slice A1 l1.length c1, .int .i64 a2] w fun e w' => ∃ v0_ : Value, e = .returned (v0_) ∧ Kd.R (Kd.int .u64) 29 w' w.heap.size (fun k_ => (w.heap.size ≤ k_)) v0_ r ∧ Below w.heap.size w w' := by
  have HO0 := Aside0.mk (show Kd.V (Kd.int .u64) 29 w w.heap.size (fun k_ => ((P0_ k_ ∨ P1_ k_) ∨ w.heap.size ≤ k_)) (.slice A0 l0.length c0) l0 from Kd.V_mono hs0 (fun k_ hk => .inl (.inl hk)))
  have HO1 := Aside0.mk (show Kd.V (Kd.int .u64) 29 w w.heap.size (fun k_ => ((P0_ k_ ∨ P1_ k_) ∨ w.heap.size ≤ k_)) (.slice A1 l1.length c1) l1 from Kd.V_mono hs1 (fun k_ hk => .inl (.inr hk)))
  have HB := Aside0.mk (Below.refl w.heap.size w)
  have H : (if 0 ≤ (mn (l0.length : Int) a2) then (if (mn (l0.length : Int) a2) ≤ (l0.length : Int) then (if 0 ≤ (mn (l1.length : Int) a2) then (if (mn (l1.length : Int) a2) ≤ (l1.length : Int) then ((conv_Product.f k (([(l0.take ((mn (l0.length : Int) a2) : Int).toNat), (l1.take ((mn (l1.length : Int) a2) : Int).toNat)] : List (List Int)))).bind fun bt291 => ((series_cut.f k bt291.1 a2).bind fun t295 => (some t295))) else (none)) else (none)) else (none)) else (none)) = some r := h
  clear h
  obtain ⟨ji4, hji4⟩ : ∃ j_ : Int, (mn (l0.length : Int) a2) = j_ := ⟨_, rfl⟩
  replace H : (if 0 ≤ (ji4) then (if (ji4) ≤ (l0.length : Int) then (if 0 ≤ (mn (l1.length : Int) a2) then (if (mn (l1.length : Int) a2) ≤ (l1.length : Int) then ((conv_Product.f k (([(l0.take ((ji4) : Int).toNat), (l1.take ((mn (l1.length : Int) a2) : Int).toNat)] : List (List Int)))).bind fun bt291 => ((series_cut.f k bt291.1 a2).bind fun t295 => (some t295))) else (none)) else (none)) else (none)) else (none)) = some r := by first | (rw [hji4] at H; exact H) | (simp only [hji4] at H ⊢; exact H)
  have hji4_ : (if a2 < (l0.length : Int) then a2 else (l0.length : Int)) = ji4 := hji4
  by_cases c5 : 0 ≤ (ji4)
  · rw [if_pos c5] at H
    have c5b0 := eq_true c5
    have c5b1 : decide (0 ≤ (ji4)) = true := decide_eq_true c5
    clear c5
    by_cases c6 : (ji4) ≤ (l0.length : Int)
    · rw [if_pos c6] at H
      have c6b0 := eq_true c6
      have LTc6 := Aside0.mk (show (((l0.take ((ji4) : Int).toNat).length : Int) = max (ji4) 0) by rw [List.length_take]; omega)
      (try (have LDc6 := Aside0.mk (show ∀ lo_ : Nat, (((l0.take ((ji4) : Int).toNat).drop lo_).length : Int) = ((((ji4) : Int).toNat - lo_ : Nat) : Int) from fun lo_ => by rw [List.length_drop, List.length_take]; omega)))
      have c6b1 : decide ((ji4) ≤ (l0.length : Int)) = true := decide_eq_true c6
      clear c6
      obtain ⟨y278, hy278⟩ : ∃ y_ : List Int, y_ = (l0.take ((ji4) : Int).toNat) := ⟨_, rfl⟩
      replace H : (if 0 ≤ (mn (l1.length : Int) a2) then (if (mn (l1.length : Int) a2) ≤ (l1.length : Int) then ((conv_Product.f k (([y278, (l1.take ((mn (l1.length : Int) a2) : Int).toNat)] : List (List Int)))).bind fun bt291 => ((series_cut.f k bt291.1 a2).bind fun t295 => (some t295))) else (none)) else (none)) = some r := by first | (rw [hy278]; with_reducible exact H) | (have H2_ := (Option.bind_some _ _).symm.trans H; rw [hy278]; with_reducible exact H2_) | (have H2_ := (Option.bind_some _ _).symm.trans H; with_reducible exact H2_) | with_reducible exact H | (rw [hy278]; exact H) | exact H
      have Ny278 := Aside0.mk hy278
      clear hy278
      obtain ⟨ji7, hji7⟩ : ∃ j_ : Int, (mn (l1.length : Int) a2) = j_ := ⟨_, rfl⟩
      replace H : (if 0 ≤ (ji7) then (if (ji7) ≤ (l1.length : Int) then ((conv_Product.f k (([y278, (l1.take ((ji7) : Int).toNat)] : List (List Int)))).bind fun bt291 => ((series_cut.f k bt291.1 a2).bind fun t295 => (some t295))) else (none)) else (none)) = some r := by first | (rw [hji7] at H; exact H) | (simp only [hji7] at H ⊢; exact H)
      have hji7_ : (if a2 < (l1.length : Int) then a2 else (l1.length : Int)) = ji7 := hji7
      by_cases c8 : 0 ≤ (ji7)
      · rw [if_pos c8] at H
        have c8b0 := eq_true c8
        have c8b1 : decide (0 ≤ (ji7)) = true := decide_eq_true c8
        clear c8
        by_cases c9 : (ji7) ≤ (l1.length : Int)
        · rw [if_pos c9] at H
          have c9b0 := eq_true c9
          have LTc9 := Aside0.mk (show (((l1.take ((ji7) : Int).toNat).length : Int) = max (ji7) 0) by rw [List.length_take]; omega)
          (try (have LDc9 := Aside0.mk (show ∀ lo_ : Nat, (((l1.take ((ji7) : Int).toNat).drop lo_).length : Int) = ((((ji7) : Int).toNat - lo_ : Nat) : Int) from fun lo_ => by rw [List.length_drop, List.length_take]; omega)))
          have c9b1 : decide ((ji7) ≤ (l1.length : Int)) = true := decide_eq_true c9
          clear c9
          obtain ⟨y283, hy283⟩ : ∃ y_ : List Int, y_ = (l1.take ((ji7) : Int).toNat) := ⟨_, rfl⟩
          replace H : ((conv_Product.f k (([y278, y283] : List (List Int)))).bind fun bt291 => ((series_cut.f k bt291.1 a2).bind fun t295 => (some t295))) = some r := by first | (rw [hy283]; with_reducible exact H) | (have H2_ := (Option.bind_some _ _).symm.trans H; rw [hy283]; with_reducible exact H2_) | (have H2_ := (Option.bind_some _ _).symm.trans H; with_reducible exact H2_) | with_reducible exact H | (rw [hy283]; exact H) | exact H
          have Ny283 := Aside0.mk hy283
          clear hy283
          obtain ⟨y288, hy288⟩ : ∃ y_ : List (List Int), y_ = (([y278, y283] : List (List Int))) := ⟨_, rfl⟩
          replace H : ((conv_Product.f k y288).bind fun bt291 => ((series_cut.f k bt291.1 a2).bind fun t295 => (some t295))) = some r := by first | (rw [hy288]; with_reducible exact H) | (have H2_ := (Option.bind_some _ _).symm.trans H; rw [hy288]; with_reducible exact H2_) | (have H2_ := (Option.bind_some _ _).symm.trans H; with_reducible exact H2_) | with_reducible exact H | (rw [hy288]; exact H) | exact H
          have Ny288 := Aside0.mk hy288
          clear hy288
          replace H := Option.bind_eq_some_iff.mp H
          obtain ⟨⟨t291, t292⟩, A100, H⟩ := H
          replace H : ((series_cut.f k t291 a2).bind fun t295 => (some t295)) = some r := H
          have A10 := Aside0.mk A100
          clear A100
          replace H := Option.bind_eq_some_iff.mp H
          obtain ⟨t295, A110, H⟩ := H
          replace H : (some t295) = some r := H
          have A11 := Aside0.mk A110
          clear A110
          obtain rfl := Option.some.inj H
          go_enter Try.func49, Try.ntmps49
          try go_wp2
          have n0_ := Aside0.mk (Kd.V_drew HO0.out)
          have n1_ := Aside0.mk (Kd.V_drew HO1.out)
          have n2_ := Aside0.mk (below_drew1 HB.out)
          clear HO0
          clear HO1
          clear HB
          have HO0 := n0_
          have HO1 := n1_
          have HB := n2_
          clear n0_ n1_ n2_
          have q13 : ((ji4) : Int) ≤ ((l0.length : Int) : Int) := of_decide_eq_true (by first | (with_reducible assumption) | assumption)
          obtain ⟨i013, hi013, _, hsz13, _⟩ := info_parts info29
          have hroom13 : l0.length ≤ c0 := (Kd.V_reads' HO0.out).2.1
          have hC13 : Kd.F (Kd.int .u64) _ _ A0 l0.length l0 := (Kd.V_at (base := w.heap.size) HO0.out).2.2
          have hcut13 := cut_to (P := Try.prog) 22 29 .i64 Try.underlying22 hi013 A0 l0.length c0 (ji4) (of_decide_eq_true (by first | (with_reducible assumption) | assumption)) q13 hroom13
          have hr13 := Kd.F_take (m := ((ji4) : Int).toNat) hC13 (by omega)
          have hy13 : y278.length = ((ji4) : Int).toNat := (by rw [Ny278.out, List.length_take]; omega)
          rw [← Ny278.out] at hr13
          rw [← hy13] at hcut13
          have HO282 := Aside0.mk (show Kd.V (Kd.int .u64) 29 _ w.heap.size _ (.slice A0 y278.length c0) y278 from Kd.V_mk (by omega) hr13)
          have HC282 := Aside0.mk (show y278.length ≤ c0 from by omega)
          clear hr13 hC13 hroom13 hi013 hsz13
          have KY13 := Aside0.mk hy13
          clear hy13
          replace q13 := eq_true q13
          have q14 : ((ji7) : Int) ≤ ((l1.length : Int) : Int) := of_decide_eq_true (by first | (with_reducible assumption) | assumption)
          obtain ⟨i014, hi014, _, hsz14, _⟩ := info_parts info29
          have hroom14 : l1.length ≤ c1 := (Kd.V_reads' HO1.out).2.1
          have hC14 : Kd.F (Kd.int .u64) _ _ A1 l1.length l1 := (Kd.V_at (base := w.heap.size) HO1.out).2.2
          have hcut14 := cut_to (P := Try.prog) 22 29 .i64 Try.underlying22 hi014 A1 l1.length c1 (ji7) (of_decide_eq_true (by first | (with_reducible assumption) | assumption)) q14 hroom14
          have hr14 := Kd.F_take (m := ((ji7) : Int).toNat) hC14 (by omega)
          have hy14 : y283.length = ((ji7) : Int).toNat := (by rw [Ny283.out, List.length_take]; omega)
          rw [← Ny283.out] at hr14
          rw [← hy14] at hcut14
          have HO287 := Aside0.mk (show Kd.V (Kd.int .u64) 29 _ w.heap.size _ (.slice A1 y283.length c1) y283 from Kd.V_mk (by omega) hr14)
          have HC287 := Aside0.mk (show y283.length ≤ c1 from by omega)
          clear hr14 hC14 hroom14 hi014 hsz14
          have KY14 := Aside0.mk hy14
          clear hy14
          replace q14 := eq_true q14
          refine start_ (n := 19) (S := fun w' => True) (ds := []) #[false, false, false, false, false, false, false, false, false, false, false, false, false, false, false, false, false, false, false] (by kernel_rfl) rfl rfl trivial (fun hHeld => ?_); refine with_tabW series_mul.tab1 series_mul.bits1 (fun HT_ HW_ => ?_)
          generalize w.drew = w12 at HO0 HO1 HB HO282 HO287 hHeld ⊢
          refine pure_ (i := 0) (N := some 10) (v := ?_) (a' := ?_) #[true, false, false, false, false, false, false, false, false, false, false, false, false, false, false, false, false, false, false] rfl rfl (any_of HT_.out (by kernel_rfl)) (fun _ _ _ h => h) (Or.inl ⟨by rfl, ?_⟩) ?_ ?_
          rotate_left
          · intro w'
            go_simp
            with_reducible rfl
          rotate_left
          · simp only [Act.put, List.setIfInBounds_toArray, List.set_cons_zero, List.set_cons_succ, i64_w, i32_w]
            rfl
          refine pure_ (i := 1) (N := some 11) (v := ?_) (a' := ?_) #[true, true, false, false, false, false, false, false, false, false, false, false, false, false, false, false, false, false, false] rfl rfl (any_of HT_.out (by kernel_rfl)) (fun _ _ _ h => h) (Or.inl ⟨by rfl, ?_⟩) ?_ ?_
          rotate_left
          · intro w'
            go_simp
            with_reducible rfl
          rotate_left
          · simp only [Act.put, List.setIfInBounds_toArray, List.set_cons_zero, List.set_cons_succ, i64_w, i32_w]
            rfl
          refine pure_ (i := 2) (N := some 12) (v := ?_) (a' := ?_) #[true, true, true, false, false, false, false, false, false, false, false, false, false, false, false, false, false, false, false] rfl rfl (any_of HT_.out (by kernel_rfl)) (fun _ _ _ h => h) (Or.inl ⟨by rfl, ?_⟩) ?_ ?_
          rotate_left
          · intro w'
            go_simp
            with_reducible rfl
          rotate_left
          · simp only [Act.put, List.setIfInBounds_toArray, List.set_cons_zero, List.set_cons_succ, i64_w, i32_w]
            rfl
          refine pure_ (i := 3) (N := some 13) (v := ?_) (a' := ?_) #[true, true, true, true, false, false, false, false, false, false, false, false, false, false, false, false, false, false, false] rfl rfl (any_of HT_.out (by kernel_rfl)) (fun _ _ _ h => h) (Or.inl ⟨by rfl, ?_⟩) ?_ ?_
          rotate_left
          · intro w'
            go_simp
            with_reducible rfl
          rotate_left
          · simp only [Act.put, List.setIfInBounds_toArray, List.set_cons_zero, List.set_cons_succ, i64_w, i32_w]
            rfl
          refine pure_ (i := 4) (N := some 14) (v := ?_) (a' := ?_) #[true, true, true, true, true, false, false, false, false, false, false, false, false, false, false, false, false, false, false] rfl rfl (any_of HT_.out (by kernel_rfl)) (fun _ _ _ h => h) (Or.inl ⟨by rfl, ?_⟩) ?_ ?_
          rotate_left
          · intro w'
            go_simp
            with_reducible rfl
          rotate_left
          · simp only [Act.put, List.setIfInBounds_toArray, List.set_cons_zero, List.set_cons_succ, i64_w, i32_w]
            rfl
          refine pure_ (i := 5) (N := some 15) (v := ?_) (a' := ?_) #[true, true, true, true, true, true, false, false, false, false, false, false, false, false, false, false, false, false, false] rfl rfl (any_of HT_.out (by kernel_rfl)) (fun _ _ _ h => h) (Or.inl ⟨by rfl, ?_⟩) ?_ ?_
          rotate_left
          · intro w'
            go_simp
            with_reducible rfl
          rotate_left
          · simp only [Act.put, List.setIfInBounds_toArray, List.set_cons_zero, List.set_cons_succ, i64_w, i32_w]
            rfl
          refine pure_ (i := 6) (N := some 16) (v := ?_) (a' := ?_) #[true, true, true, true, true, true, true, false, false, false, false, false, false, false, false, false, false, false, false] rfl rfl (any_of HT_.out (by kernel_rfl)) (fun _ _ _ h => h) (Or.inl ⟨by rfl, ?_⟩) ?_ ?_
          rotate_left
          · intro w'
            go_simp
            with_reducible rfl
          rotate_left
          · simp only [Act.put, List.setIfInBounds_toArray, List.set_cons_zero, List.set_cons_succ, i64_w, i32_w]
            rfl
          refine pure_ (i := 7) (N := some 17) (v := ?_) (a' := ?_) #[true, true, true, true, true, true, true, true, false, false, false, false, false, false, false, false, false, false, false] rfl rfl (any_of HT_.out (by kernel_rfl)) (fun _ _ _ h => h) (Or.inl ⟨by rfl, ?_⟩) ?_ ?_
          rotate_left
          · intro w'
            go_simp
            with_reducible rfl
          rotate_left
          · simp only [Act.put, List.setIfInBounds_toArray, List.set_cons_zero, List.set_cons_succ, i64_w, i32_w]
            rfl
          refine pure_ (i := 8) (N := some 18) (v := ?_) (a' := ?_) #[true, true, true, true, true, true, true, true, true, false, false, false, false, false, false, false, false, false, false] rfl rfl (any_of HT_.out (by kernel_rfl)) (fun _ _ _ h => h) (Or.inl ⟨by rfl, ?_⟩) ?_ ?_
          rotate_left
          · intro w'
            go_simp
            with_reducible rfl
          rotate_left
          · simp only [Act.put, List.setIfInBounds_toArray, List.set_cons_zero, List.set_cons_succ, i64_w, i32_w]
            rfl
          refine pure_ (i := 9) (N := some 19) (v := ?_) (a' := ?_) #[true, true, true, true, true, true, true, true, true, true, false, false, false, false, false, false, false, false, false] rfl rfl (any_of HT_.out (by kernel_rfl)) (fun _ _ _ h => h) (Or.inl ⟨by rfl, ?_⟩) ?_ ?_
          rotate_left
          · intro w'
            go_simp
            with_reducible rfl
          rotate_left
          · simp only [Act.put, List.setIfInBounds_toArray, List.set_cons_zero, List.set_cons_succ, i64_w, i32_w]
            rfl
          refine pure_ (i := 10) (N := some 20) (v := ?_) (a' := ?_) #[true, true, true, true, true, true, true, true, true, true, true, false, false, false, false, false, false, false, false] rfl rfl (any_of HT_.out (by kernel_rfl)) (fun _ _ _ h => h) (Or.inl ⟨by rfl, ?_⟩) ?_ ?_
          rotate_left
          · intro w'
            go_simp
            with_reducible rfl
          rotate_left
          · simp only [Act.put, List.setIfInBounds_toArray, List.set_cons_zero, List.set_cons_succ, i64_w, i32_w]
            rfl
          refine pure_ (i := 11) (N := some 21) (v := ?_) (a' := ?_) #[true, true, true, true, true, true, true, true, true, true, true, true, false, false, false, false, false, false, false] rfl rfl (any_of HT_.out (by kernel_rfl)) (fun _ _ _ h => h) (Or.inl ⟨by rfl, ?_⟩) ?_ ?_
          rotate_left
          · intro w'
            go_simp
            with_reducible rfl
          rotate_left
          · simp only [Act.put, List.setIfInBounds_toArray, List.set_cons_zero, List.set_cons_succ, i64_w, i32_w]
            rfl
          refine one_ (i := 12) (N := some 22) #[true, true, true, true, true, true, true, true, true, true, true, true, true, false, false, false, false, false, false] rfl rfl (one_of HT_.out (by kernel_rfl)) (by decide) (fun K hK => ?_)
          refine Kd.N_lit_step (Kd.slice 29 (Kd.int .u64)) _ 22 ?hg (N' := 22) ?hd (xs := ([y278, y283] : List (List Int))) (inner := [.slice A0 y278.length c0, .slice A1 y283.length c1]) (ok := (fun k_ => ((P0_ k_ ∨ P1_ k_) ∨ w.heap.size ≤ k_))) (okp := (fun k_ => ((P0_ k_ ∨ P1_ k_) ∨ w.heap.size ≤ k_))) ?hr ?hp (fun _ hk => hk) ((show ∀ k_, w12.heap.size ≤ k_ → (fun k_ => ((P0_ k_ ∨ P1_ k_) ∨ w.heap.size ≤ k_)) k_ from fun k_ hk => (.inr (Nat.le_trans (below_size (by repeat (first | (with_reducible first | exact HB.out | apply below_alloc | apply pw_below_drewN | apply below_drew1) | exact HB.out))) hk))) _ (Nat.le_refl _)) (Below.refl _ _) (Nat.le_refl _) (by simp) ?_; (case hd => rfl); (case hg => rfl); (case hr => first | (go_simp; done) | (go_simp; rfl)); (case hp => exact (Reps.one (show Kd.FK (Kd.slice 29 (Kd.int .u64)) _ _ y278 [.slice A0 y278.length c0] from (Kd.FK_slice_mk (Kd.V_reads' (Kd.V_mono (ok' := (fun k_ => ((P0_ k_ ∨ P1_ k_) ∨ w.heap.size ≤ k_))) (HO282.out) (fun k_ hk => hk))).2.1 (Kd.V_F (Kd.V_mono (ok' := (fun k_ => ((P0_ k_ ∨ P1_ k_) ∨ w.heap.size ≤ k_))) (HO282.out) (fun k_ hk => hk))))) (Reps.one (show Kd.FK (Kd.slice 29 (Kd.int .u64)) _ _ y283 [.slice A1 y283.length c1] from (Kd.FK_slice_mk (Kd.V_reads' (Kd.V_mono (ok' := (fun k_ => ((P0_ k_ ∨ P1_ k_) ∨ w.heap.size ≤ k_))) (HO287.out) (fun k_ hk => hk))).2.1 (Kd.V_F (Kd.V_mono (ok' := (fun k_ => ((P0_ k_ ∨ P1_ k_) ∨ w.heap.size ≤ k_))) (HO287.out) (fun k_ hk => hk))))) (Reps.none _ _))))
          intro v289 w15 ho16 hb hg_ hnew_
          clear hg_ hnew_
          (first | rw [← Ny288.out] at ho16 | (simp only [Int.reduceToNat] at ho16; rw [← Ny288.out] at ho16))
          have n0_ := Aside0.mk (Kd.V_elder' (by (with_reducible repeat (first | apply Kd.V_alloc | apply Kd.V_drewN | apply Kd.V_drew)); exact HO0.out) (Kd.N_base ho16) hb)
          have n1_ := Aside0.mk (Kd.V_elder' (by (with_reducible repeat (first | apply Kd.V_alloc | apply Kd.V_drewN | apply Kd.V_drew)); exact HO1.out) (Kd.N_base ho16) hb)
          have n2_ := Aside0.mk (Kd.V_elder' (by (with_reducible repeat (first | apply Kd.V_alloc | apply Kd.V_drewN | apply Kd.V_drew)); exact HO282.out) (Kd.N_base ho16) hb)
          have n3_ := Aside0.mk (Kd.V_elder' (by (with_reducible repeat (first | apply Kd.V_alloc | apply Kd.V_drewN | apply Kd.V_drew)); exact HO287.out) (Kd.N_base ho16) hb)
          have n4_ := Aside0.mk (Kd.N_lower ho16 (below_size (by repeat (first | (with_reducible first | exact HB.out | apply below_alloc | apply pw_below_drewN | apply below_drew1) | exact HB.out))))
          have n5_ := Aside0.mk (below_step (by repeat (first | (with_reducible first | exact HB.out | apply below_alloc | apply pw_below_drewN | apply below_drew1) | exact HB.out)) hb)
          clear HO0
          clear HO1
          clear HO282
          clear HO287
          clear HB
          have HO0 := n0_
          have HO1 := n1_
          have HO282 := n2_
          have HO287 := n3_
          have HO290 := n4_
          have HB := n5_
          clear n0_ n1_ n2_ n3_ n4_ n5_
          clear hb ho16
          obtain ⟨Ao17, co17, eo17⟩ := Kd.N_slice HO290.out
          (first | subst eo17 | (injection eo17 with f1_ f2_ f3_; have f4_ := f1_.symm; have f5_ := f3_.symm; clear f1_ f2_ f3_; subst f4_; subst f5_))
          refine hK.out _ _ trivial (fun hHeld => ?_)
          clear hK K
          refine norm_ (a' := ?_) ?_ ?_
          rotate_left
          · show Act.put _ (some 22) _ = _
            simp only [Act.put, List.setIfInBounds_toArray, List.set_cons_zero, List.set_cons_succ, i64_w, i32_w]
            rfl
          refine one_ (i := 13) (N := some 23) #[true, true, true, true, true, true, true, true, true, true, true, true, true, true, false, false, false, false, false] rfl rfl (one_of HT_.out (by kernel_rfl)) (by decide) (fun K hK => ?_)
          refine goes_ Try.func44 (by kernel_rfl) rfl #[.slice Ao17 y288.length co17] (by rfl) rfl rfl (by (try simp only [List.map_toArray, List.map_cons, List.map_nil]); first | done | rfl | (simp only [List.length_drop, List.length_take]; rfl)) ?_
          with_reducible refine (conv_Product.calls k _ _ y288 t291 t292 _ ?side1 ?side2 A10.out).mono ?_
          (case side1 => repeat (first | exact (Kd.N_reads' HO290.out).2.2 | (with_reducible refine Kd.C_alloc ?_ _) | (with_reducible refine Kd.C_drewN ?_ _) | (with_reducible refine Kd.C_drew ?_)))
          (case side2 => exact (Kd.N_reads' HO290.out).2.1)
          rintro e w18 ⟨v293, rfl, ho0, hb⟩
          refine ⟨_, rfl, ?_⟩
          have n0_ := Aside0.mk (Kd.V_elder' (by (with_reducible repeat (first | apply Kd.V_alloc | apply Kd.V_drewN | apply Kd.V_drew)); exact HO0.out) (Kd.R_base ho0) hb)
          have n1_ := Aside0.mk (Kd.V_elder' (by (with_reducible repeat (first | apply Kd.V_alloc | apply Kd.V_drewN | apply Kd.V_drew)); exact HO1.out) (Kd.R_base ho0) hb)
          have n2_ := Aside0.mk (Kd.V_elder' (by (with_reducible repeat (first | apply Kd.V_alloc | apply Kd.V_drewN | apply Kd.V_drew)); exact HO282.out) (Kd.R_base ho0) hb)
          have n3_ := Aside0.mk (Kd.V_elder' (by (with_reducible repeat (first | apply Kd.V_alloc | apply Kd.V_drewN | apply Kd.V_drew)); exact HO287.out) (Kd.R_base ho0) hb)
          have n4_ := Aside0.mk (Kd.N_elder' (by (with_reducible repeat (first | apply Kd.N_alloc | apply Kd.N_drewN | apply Kd.N_drew)); exact HO290.out) (Kd.R_base ho0) hb)
          have n5_ := Aside0.mk (Kd.R_lower (Kd.R_newM (M := fun k_ => (w.heap.size ≤ k_)) ho0 (below_size (by repeat (first | (with_reducible first | exact HB.out | apply below_alloc | apply pw_below_drewN | apply below_drew1) | exact HB.out))) (fun k_ h_ => h_)) (below_size (by repeat (first | (with_reducible first | exact HB.out | apply below_alloc | apply pw_below_drewN | apply below_drew1) | exact HB.out))))
          have n6_ := Aside0.mk (below_step (by repeat (first | (with_reducible first | exact HB.out | apply below_alloc | apply pw_below_drewN | apply below_drew1) | exact HB.out)) hb)
          clear HO0
          clear HO1
          clear HO282
          clear HO287
          clear HO290
          clear HB
          have HO0 := n0_
          have HO1 := n1_
          have HO282 := n2_
          have HO287 := n3_
          have HO290 := n4_
          have HO294 := n5_
          have HB := n6_
          clear n0_ n1_ n2_ n3_ n4_ n5_ n6_
          (try clear hb)
          (try clear hb2)
          (try clear hk)
          (try clear hi)
          (try clear ho0)
          refine hK.out _ _ trivial (fun hHeld => ?_)
          clear hK K
          refine norm_ (a' := ?_) ?_ ?_
          rotate_left
          · show Act.put _ (some 23) _ = _
            simp only [Act.put, List.setIfInBounds_toArray, List.set_cons_zero, List.set_cons_succ, i64_w, i32_w]
            rfl
          refine pure_ (i := 14) (N := some 9) (v := ?_) (a' := ?_) #[true, true, true, true, true, true, true, true, true, true, true, true, true, true, true, false, false, false, false] rfl rfl (any_of HT_.out (by kernel_rfl)) (fun _ _ _ h => h) (Or.inl ⟨by rfl, ?_⟩) ?_ ?_
          rotate_left
          · intro w'
            go_simp
            with_reducible rfl
          rotate_left
          · simp only [Act.put, List.setIfInBounds_toArray, List.set_cons_zero, List.set_cons_succ, i64_w, i32_w]
            rfl
          refine pure_ (i := 15) (N := some 24) (v := ?_) (a' := ?_) #[true, true, true, true, true, true, true, true, true, true, true, true, true, true, true, true, false, false, false] rfl rfl (any_of HT_.out (by kernel_rfl)) (fun _ _ _ h => h) (Or.inl ⟨by rfl, ?_⟩) ?_ ?_
          rotate_left
          · intro w'
            go_simp
            with_reducible rfl
          rotate_left
          · simp only [Act.put, List.setIfInBounds_toArray, List.set_cons_zero, List.set_cons_succ, i64_w, i32_w]
            rfl
          refine pure_ (i := 16) (N := some 25) (v := ?_) (a' := ?_) #[true, true, true, true, true, true, true, true, true, true, true, true, true, true, true, true, true, false, false] rfl rfl (any_of HT_.out (by kernel_rfl)) (fun _ _ _ h => h) (Or.inl ⟨by rfl, ?_⟩) ?_ ?_
          rotate_left
          · intro w'
            go_simp
            with_reducible rfl
          rotate_left
          · simp only [Act.put, List.setIfInBounds_toArray, List.set_cons_zero, List.set_cons_succ, i64_w, i32_w]
            rfl
          refine pure_ (i := 17) (N := some 7) (v := ?_) (a' := ?_) #[true, true, true, true, true, true, true, true, true, true, true, true, true, true, true, true, true, true, false] rfl rfl (any_of HT_.out (by kernel_rfl)) (fun _ _ _ h => h) (Or.inl ⟨by rfl, ?_⟩) ?_ ?_
          rotate_left
          · intro w'
            go_simp
            with_reducible rfl
          rotate_left
          · simp only [Act.put, List.setIfInBounds_toArray, List.set_cons_zero, List.set_cons_succ, i64_w, i32_w]
            rfl
          refine pure_ (i := 18) (N := some 8) (v := ?_) (a' := ?_) #[true, true, true, true, true, true, true, true, true, true, true, true, true, true, true, true, true, true, true] rfl rfl (any_of HT_.out (by kernel_rfl)) (fun _ _ _ h => h) (Or.inl ⟨by rfl, ?_⟩) ?_ ?_
          rotate_left
          · intro w'
            go_simp
            with_reducible rfl
          rotate_left
          · simp only [Act.put, List.setIfInBounds_toArray, List.set_cons_zero, List.set_cons_succ, i64_w, i32_w]
            rfl
          refine done_ (done_of HT_.out (by kernel_rfl)) ?_
          obtain ⟨Ao19, co19, eo19⟩ := Kd.R_slice HO294.out
          subst eo19
          try go_wp2_with (first | ((with_reducible refine gate_callee (f := 60) rfl ?_); refine goesL_ (some 28) rfl rfl Try.func60 (by kernel_rfl) rfl #[.slice Ao19 t291.length co19, .int .i64 a2] rfl (by (try simp only [List.map_toArray, List.map_cons, List.map_nil]); first | done | rfl | (simp only [List.length_drop, List.length_take]; rfl)) ?_; (with_reducible refine (series_cut.calls k _ _ t291 a2 t295 _ ?side1 ?side2 A11.out).mono ?_); (case side1 => repeat (first | exact (Kd.R_reads' HO294.out).2.2 | (with_reducible refine Kd.C_alloc ?_ _) | (with_reducible refine Kd.C_drewN ?_ _) | (with_reducible refine Kd.C_drew ?_))); (case side2 => exact (Kd.R_reads' HO294.out).2.1); rintro e w20 ⟨v296, rfl, ho0, hb⟩; refine ⟨_, rfl, ?_⟩; have n0_ := Aside0.mk (Kd.V_elder' (by (with_reducible repeat (first | apply Kd.V_alloc | apply Kd.V_drewN | apply Kd.V_drew)); exact HO0.out) (Kd.R_base ho0) hb); have n1_ := Aside0.mk (Kd.V_elder' (by (with_reducible repeat (first | apply Kd.V_alloc | apply Kd.V_drewN | apply Kd.V_drew)); exact HO1.out) (Kd.R_base ho0) hb); have n2_ := Aside0.mk (Kd.V_elder' (by (with_reducible repeat (first | apply Kd.V_alloc | apply Kd.V_drewN | apply Kd.V_drew)); exact HO282.out) (Kd.R_base ho0) hb); have n3_ := Aside0.mk (Kd.V_elder' (by (with_reducible repeat (first | apply Kd.V_alloc | apply Kd.V_drewN | apply Kd.V_drew)); exact HO287.out) (Kd.R_base ho0) hb); have n4_ := Aside0.mk (Kd.N_elder' (by (with_reducible repeat (first | apply Kd.N_alloc | apply Kd.N_drewN | apply Kd.N_drew)); exact HO290.out) (Kd.R_base ho0) hb); have n5_ := Aside0.mk (Kd.R_elder' (by (with_reducible repeat (first | apply Kd.R_alloc | apply Kd.R_drewN | apply Kd.R_drew)); exact HO294.out) (Kd.R_base ho0) hb); have n6_ := Aside0.mk (Kd.R_lower (Kd.R_new' (Kd.R_newM (M := fun k_ => (w.heap.size ≤ k_)) ho0 (below_size (by repeat (first | (with_reducible first | exact HB.out | apply below_alloc | apply pw_below_drewN | apply below_drew1) | exact HB.out))) (fun k_ h_ => h_)) (Kd.R_lt (by (with_reducible repeat (first | apply Kd.R_alloc | apply Kd.R_drewN | apply Kd.R_drew)); exact HO294.out))) (below_size (by repeat (first | (with_reducible first | exact HB.out | apply below_alloc | apply pw_below_drewN | apply below_drew1) | exact HB.out)))); have n7_ := Aside0.mk (below_step (by repeat (first | (with_reducible first | exact HB.out | apply below_alloc | apply pw_below_drewN | apply below_drew1) | exact HB.out)) hb); clear HO0; clear HO1; clear HO282; clear HO287; clear HO290; clear HO294; clear HB; have HO0 := n0_; have HO1 := n1_; have HO282 := n2_; have HO287 := n3_; have HO290 := n4_; have HO294 := n5_; have HO297 := n6_; have HB := n7_; clear n0_ n1_ n2_ n3_ n4_ n5_ n6_ n7_; (try clear hb); (try clear hb2); (try clear hk); (try clear hi); (try clear ho0)))
          go_ret
          exact ⟨_, by first | rfl | (simp [errW_none, errW_some] <;> rfl) | (simp only [← hji4, ← hji7]; first | rfl | (simp [errW_none, errW_some] <;> rfl)) | (simp [*, errW_none, errW_some] <;> rfl), by (with_reducible repeat (first | apply Kd.R_alloc | apply Kd.R_drewN | apply Kd.R_drew)); exact Kd.R_mono HO297.out (fun _ hk => hk.1.1), by repeat (first | (with_reducible first | exact HB.out | apply below_alloc | apply pw_below_drewN | apply below_drew1) | exact HB.out)⟩
        · rw [if_neg c9] at H
          exact absurd H (by simp)
      · rw [if_neg c8] at H
        exact absurd H (by simp)
    · rw [if_neg c6] at H
      exact absurd H (by simp)
  · rw [if_neg c5] at H
    exact absurd H (by simp)

/-! ### series_first: function 61 -/
def series_first.f (l0 : List Int) : Option (Int) := if (l0.length : Int) = 0 then (some 0) else (if 0 < (l0.length : Int) then ((gold_Of.f (rd l0 0)).bind fun t299 => (some t299)) else (none))
set_option maxHeartbeats 8000000 in
set_option maxRecDepth 100000 in
theorem series_first.calls (A0 : Option Addr) (c0 : Nat) (l0 : List Int) (r : Int) (w : World) (hr0 : Kd.C (Kd.int .u64) w A0 l0.length l0) (hc0 : l0.length ≤ c0) (h : series_first.f l0 = some r) :
    Calls Try.prog 61 #[.slice A0 l0.length c0] w fun e w' => e = .returned (.int .u64 r) ∧ Drawn0 w w' := by
  have HR0 := Aside0.mk hr0
  have HC0 := Aside0.mk hc0
  clear hr0 hc0
  have H : (if (l0.length : Int) = 0 then (some 0) else (if 0 < (l0.length : Int) then ((gold_Of.f (rd l0 0)).bind fun t299 => (some t299)) else (none))) = some r := h
  clear h
  by_cases c2 : (l0.length : Int) = 0
  · rw [if_pos c2] at H
    have c2b0 : ((l0.length : Int) == 0) = true := beq_iff_eq.mpr c2
    have c2b1 : ((l0.length : Int) != 0) = false := bne_eq_false_iff_eq.mpr c2
    clear c2
    obtain rfl := Option.some.inj H
    go_enter Try.func61, Try.ntmps61
    go_wp2
    go_ret
    exact ⟨by first | rfl | (simp; done) | (simp [*]; done), by repeat (first | exact Drawn0.refl _ | apply Drawn0.step)⟩
  · rw [if_neg c2] at H
    have c2b0 : ((l0.length : Int) == 0) = false := beq_eq_false_iff_ne.mpr c2
    have c2b1 : ((l0.length : Int) != 0) = true := bne_iff_ne.mpr c2
    have c2b2 : ¬ (l0 = []) := fun h_ => c2 (by rw [h_]; rfl)
    by_cases c3 : 0 < (l0.length : Int)
    · rw [if_pos c3] at H
      have c3b0 : decide (0 < (l0.length : Int)) = true := decide_eq_true c3
      have c3b1 : decide (0 < l0.length) = true := decide_eq_true (by omega)
      clear c3
      replace H := Option.bind_eq_some_iff.mp H
      obtain ⟨t299, A40, H⟩ := H
      replace H : (some t299) = some r := H
      have A4 := Aside0.mk A40
      clear A40
      obtain rfl := Option.some.inj H
      have p298 : 0 ≤ (0 : Int) := (by omega)
      have q298 : 0 < (l0.length : Int) := of_decide_eq_true (by first | (with_reducible assumption) | assumption)
      obtain ⟨ad298, e298, hx298_0⟩ := Kd.at_int HR0.out 0 p298 q298
      cases e298
      have qi298 : (0 < l0.length) = True := eq_true (by omega)
      (try rw [show ((0 : Int)).toNat = 0 from rfl] at hx298_0)
      (try rw [Addr.add_zero'] at hx298_0)
      replace p298 := eq_true p298
      replace q298 := eq_true q298
      go_enter Try.func61, Try.ntmps61
      go_wp2_with (first | ((with_reducible refine gate_callee (f := 23) rfl ?_); refine goesL_ (some 9) rfl rfl Try.func23 (by kernel_rfl) rfl #[.int .u64 (rd l0 0)] rfl (by (try simp only [List.map_toArray, List.map_cons, List.map_nil]); first | done | rfl | (simp only [List.length_drop, List.length_take]; rfl)) ?_; (with_reducible refine (gold_Of.calls (rd l0 0) t299 _ A4.out).mono ?_); rintro e w' ⟨rfl, ⟨nd, rfl⟩⟩; refine ⟨_, rfl, ?_⟩))
      go_ret
      exact ⟨by first | rfl | (simp; done) | (simp [*]; done), by repeat (first | exact Drawn0.refl _ | apply Drawn0.step)⟩
    · rw [if_neg c3] at H
      exact absurd H (by simp)

-- NOT PRINTED: function 62 (series_longer)

-- NOT PRINTED: function 63 (series_inv_1)

/-! ### series_inv: function 50 (by hand) -/
theorem hk_V_of_C {w : World} {A : Option Addr} {c base : Nat} {l : List Int} (h : Kd.C (Kd.int .u64) w A l.length l) (hl : l.length ≤ c) : Kd.V (Kd.int .u64) 29 w base (fun _ => True) (.slice A l.length c) l :=
  Kd.V_mk hl (fun W' hW => Kd.Heap.C (Kd.heap_int .u64) (fun k hk => hW k trivial hk) h)
/-- A row's first words, each its negative. -/
def hk_negs (t : List Int) : Nat → Option (List Int)
  | 0 => some t
  | i + 1 => (hk_negs t i).bind fun x => (gold_Neg.f (rd x (i : Int))).bind fun v => some (x.set i v)
theorem hk_negs_length {t : List Int} : ∀ {i : Nat} {x : List Int}, hk_negs t i = some x → x.length = t.length
  | 0, x, h => by rw [← Option.some.inj h]
  | i + 1, x, h => by
    unfold hk_negs at h
    obtain ⟨y, hy, h⟩ := Option.bind_eq_some_iff.1 h
    obtain ⟨v, _, h⟩ := Option.bind_eq_some_iff.1 h
    rw [← Option.some.inj h, List.length_set]
    exact hk_negs_length hy
theorem hk_negs_down {t : List Int} : ∀ {i j : Nat} {r : List Int}, hk_negs t (i + j) = some r → ∃ x, hk_negs t i = some x
  | i, 0, r, h => ⟨r, h⟩
  | i, j + 1, r, h => by
    unfold hk_negs at h
    obtain ⟨y, hy, _⟩ := Option.bind_eq_some_iff.1 h
    exact hk_negs_down (j := j) hy
/-- A step of the inverse: s * (2 - p * s), cut off. -/
def hk_invStep (n : Nat) (p s : List Int) (m : Int) : Option (List Int) := (series_mul.f n p s m).bind fun t => (hk_negs t t.length).bind fun t2 => if 0 < t.length then (gold_Add.f (rd t2 0) 2).bind fun v => series_mul.f n s (t2.set 0 v) m else none
/-- Steps, each of twice as many words. -/
def hk_lng (step : List Int → Int → Option (List Int)) (n : Int) : Nat → List Int → Int → Option (List Int)
  | 0, _, _ => none
  | j + 1, s, m => if (s.length : Int) < n then (step s (mn m n)).bind fun s2 => hk_lng step n j s2 (wrap64 (m * 2)) else some s
theorem hk_mul_at (k : Nat) (P0_ : Nat → Prop) (A0 : Option Addr) (c0 : Nat) (l0 : List Int) (P1_ : Nat → Prop) (A1 : Option Addr) (c1 m1 : Nat) (l1 : List Int) (a2 : Int) (r : List Int) (w : World) (h1 : m1 = l1.length) (hs0 : Kd.V (Kd.int .u64) 29 w w.heap.size (fun k_ => P0_ k_) (.slice A0 l0.length c0) l0) (hs1 : Kd.V (Kd.int .u64) 29 w w.heap.size (fun k_ => P1_ k_) (.slice A1 m1 c1) l1) (h : series_mul.f k l0 l1 a2 = some r) :
    Calls Try.prog 49 #[.slice A0 l0.length c0, .slice A1 m1 c1, .int .i64 a2] w fun e w' => ∃ v0_ : Value, e = .returned (v0_) ∧ Kd.R (Kd.int .u64) 29 w' w.heap.size (fun k_ => (w.heap.size ≤ k_)) v0_ r ∧ Below w.heap.size w w' := by
  subst h1
  exact series_mul.calls k P0_ A0 c0 l0 P1_ A1 c1 l1 a2 r w hs0 hs1 h
set_option maxHeartbeats 8000000 in
set_option maxRecDepth 100000 in
theorem hk_inv1.calls (n : Nat) (A0 : Option Addr) (c0 : Nat) (p : List Int) (As : Option Addr) (cs : Nat) (s : List Int) (m : Int) (b : Nat) (r : List Int) (w : World) (hc : w.cell? ⟨b, 0, none⟩ = some (.slice A0 p.length c0)) (hp : Kd.V (Kd.int .u64) 29 w w.heap.size (fun _ => True) (.slice A0 p.length c0) p) (hs : Kd.V (Kd.int .u64) 29 w w.heap.size (fun _ => True) (.slice As s.length cs) s) (h : hk_invStep n p s m = some r) :
    Calls Try.prog 63 #[.slice As s.length cs, .int .i64 m, .pointer (some ⟨b, 0, none⟩)] w fun e w' => ∃ v0_ : Value, e = .returned (v0_) ∧ Kd.R (Kd.int .u64) 29 w' w.heap.size (fun _ => True) v0_ r ∧ Below w.heap.size w w' := by
  unfold hk_invStep at h
  obtain ⟨t, ht, h⟩ := Option.bind_eq_some_iff.1 h
  obtain ⟨t2, ht2, h⟩ := Option.bind_eq_some_iff.1 h
  by_cases hl : 0 < t.length
  case neg => rw [if_neg hl] at h; cases h
  rw [if_pos hl] at h
  obtain ⟨v, hv, h⟩ := Option.bind_eq_some_iff.1 h
  have HP := Aside0.mk hp
  have HS := Aside0.mk hs
  have HT := Aside0.mk ht
  have HT2 := Aside0.mk ht2
  have HV := Aside0.mk hv
  have HR := Aside0.mk h
  have HL := Aside0.mk hl
  clear hp hs ht ht2 hl hv h
  go_enter Try.func63, Try.ntmps63
  go_wp2_with ((go_at_call 49; (with_reducible refine (series_mul.calls n _ A0 c0 p _ As cs s m t _ HP.out HS.out HT.out).mono ?_); rintro e w1 ⟨vt, rfl, hR_, hB_⟩; obtain ⟨g, co, eo, gb, gl, cl, hGG⟩ := Kd.R_form hR_ HL.out; subst eo; have HO := Aside0.mk (Kd.R_flat (ok' := fun j => j = g) (fun h => h) hR_ (fun q hq _ => (Option.some.inj hq).symm)); have HB := Aside0.mk hB_; have GB := Aside0.mk gb; clear hR_ hB_ gb gl cl hGG))
  go_loopg [14] (t.length) (fun kq v14 w' => ∃ (i : Nat) (x : List Int), v14 = .int .i64 (i : Int) ∧ Aside0 (kq + i = t.length) ∧ Aside0 (hk_negs t i = some x) ∧ Aside0 (Kd.R (Kd.int .u64) 29 w' w.heap.size (fun j => j = g) (.slice (some ⟨g, 0, none⟩) t.length co) x) ∧ Aside0 (Below w.heap.size w w'))
  case atStart => exact ⟨0, t, by simp, ⟨by omega⟩, ⟨rfl⟩, HO, HB⟩
  case round =>
    clear HO HB
    obtain ⟨i, x, rfl, HI, HX, HO, HB⟩ := hrel
    have hxl : x.length = t.length := hk_negs_length HX.out
    have HXL := Aside0.mk hxl
    cases gk with
    | zero =>
      have hi := HI.out
      have ei : i = t.length := by omega
      have c1 : decide ((i : Int) < (t.length : Int)) = false := decide_eq_false (by omega)
      have c2 : (i < t.length) = False := eq_false (by omega)
      have ex : x = t2 := by
        have hx := HX.out
        rw [ei, HT2.out] at hx
        exact (Option.some.inj hx).symm
      subst ex
      have q1 : (0 < t.length) = True := eq_true HL.out
      have q2 : ((0 : Int) < (t.length : Int)) = True := eq_true (by have := HL.out; omega)
      obtain ⟨hx0, hf0⟩ := Kd.R_celln 0 HO.out (0 : Int) (by omega) (by have := HL.out; omega)
      rw [show (0 : Int).toNat = 0 from rfl] at hx0 hf0
      replace hx0 : wr.cell? ⟨g, 0, none⟩ = some (.int .u64 (rd x 0)) := hx0
      clear hi ei hxl
      go_wp2_with fail
      (with_reducible refine (gold_Add.calls _ 2 v _ HV.out).mono ?_)
      rintro e w5 ⟨rfl, hb5⟩
      have HO5 := Aside0.mk (Kd.R_below HO.out hb5)
      have HB5 := Aside0.mk (HB.out.trans (hb5.mono HB.out.size))
      clear HO HB hb5
      clear hx0 hf0
      have f5 := Kd.R_celln 0 HO5.out (0 : Int) (by omega) (by have := HXL.out; have := HL.out; omega)
      rw [show (0 : Int).toNat = 0 from rfl] at f5
      obtain ⟨hx5, hf5⟩ := f5
      have HP5 := Aside0.mk (Kd.R_putn HO5.out (0 : Int) v)
      rw [show (0 : Int).toNat = 0 from rfl] at HP5
      have HB6 := Aside0.mk (below_set HB5.out GB.out (j := 0) (v := .int .u64 v))
      go_wp2_with fail
      clear hx5 hf5
      have VS := Kd.V_far (Kd.V_below (Kd.V_bound HS.out) HB5.out) (p := ⟨g, 0, none⟩) (fun k hk => by have h1 := hk.2; have h2 := GB.out; show k ≠ g; omega) (.int .u64 v)
      have VT := Kd.R_V (base' := (w5.setCell ⟨g, 0, none⟩ (.int .u64 v)).heap.size) HP5.out
      refine (hk_mul_at n (fun k => True ∧ k < w.heap.size) As cs s (fun j => j = g) (some ⟨g, 0, none⟩) co t.length (x.set 0 v) m r _ (by rw [List.length_set]; exact HXL.out.symm) VS VT HR.out).mono ?_
      rintro e w7 ⟨vr, rfl, hR7_, hB7_⟩
      have HR7 := Aside0.mk (Kd.R_mono (ok' := fun _ => True) (Kd.R_lower hR7_ HB6.out.size) (fun _ _ => trivial))
      have HB7 := Aside0.mk (HB6.out.trans (hB7_.mono HB6.out.size))
      clear hR7_ hB7_
      go_wp2_with fail
      go_ret
      exact ⟨vr, rfl, HR7.out, HB7.out⟩
    | succ k1 =>
      have hi := HI.out
      have hil : i < t.length := by omega
      have c1 : decide ((i : Int) < (t.length : Int)) = true := decide_eq_true (by omega)
      have c2 : (i < t.length) = True := eq_true hil
      have c3 : (0 ≤ (i : Int)) = True := eq_true (by omega)
      have c4 : ((i : Int) < (t.length : Int)) = True := eq_true (by omega)
      obtain ⟨y, hy⟩ : ∃ y, hk_negs t (i + 1) = some y := hk_negs_down (j := k1) (by rw [show i + 1 + k1 = t.length by omega]; exact HT2.out)
      have HY := Aside0.mk hy
      unfold hk_negs at hy
      rw [HX.out, Option.bind_some] at hy
      obtain ⟨u, hu, hy⟩ := Option.bind_eq_some_iff.1 hy
      have HU := Aside0.mk hu
      have EY := Aside0.mk (Option.some.inj hy)
      obtain ⟨hx2, hf2⟩ := Kd.R_celln 0 HO.out (i : Int) (by omega) (by omega)
      rw [Int.toNat_natCast] at hx2 hf2
      replace hx2 : wr.cell? ⟨g, i, none⟩ = some (.int .u64 (rd x (i : Int))) := hx2
      clear hi hil hu hy hxl
      go_wp2_with ((go_at_call 24; (with_reducible refine (gold_Neg.calls _ u _ HU.out).mono ?_); rintro e w5 ⟨rfl, hb5⟩; obtain ⟨nd, rfl⟩ := hb5.out; clear hb5))
      have HP2 := Aside0.mk (Kd.R_putn (Kd.R_drewN HO.out nd) (i : Int) u)
      rw [Int.toNat_natCast, EY.out] at HP2
      have HB2 := Aside0.mk (below_set (pw_below_drewN HB.out nd) GB.out (j := i) (v := .int .u64 u))
      clear hx2 hf2 c1 c2 c3 c4
      go_roundg k1
      case measure => omega
      case rel => exact ⟨i + 1, y, (by rw [show wrap64 ((i : Int) + 1) = ((i + 1 : Nat) : Int) by have := HI.out; have := HXL.out; have := (Kd.R_reads' HO.out).2.2.2.1; unfold wrap64; omega]), ⟨by have := HI.out; omega⟩, HY, HP2, HB2⟩
set_option maxHeartbeats 8000000 in
set_option maxRecDepth 100000 in
theorem hk_longerInv.calls (n k : Nat) (A0 : Option Addr) (c0 : Nat) (p : List Int) (b : Nat) (a m : Int) (s r : List Int) (w : World) (hc : w.cell? ⟨b, 0, none⟩ = some (.slice A0 p.length c0)) (hp : Kd.V (Kd.int .u64) 29 w w.heap.size (fun _ => True) (.slice A0 p.length c0) p)
    (h : hk_lng (hk_invStep n p) m k [a] 2 = some s) (h2 : series_cut.f n s m = some r) :
    Calls Try.prog 62 #[.int .u64 a, .int .i64 m, .func (.func 63) #[] #[.pointer (some ⟨b, 0, none⟩)]] w fun e w' => ∃ v0_ : Value, e = .returned (v0_) ∧ Kd.R (Kd.int .u64) 29 w' w.heap.size (fun _ => True) v0_ r ∧ Below w.heap.size w w' := by
  have HC := Aside0.mk hc
  have HP := Aside0.mk (Kd.V_bound hp)
  have H := Aside0.mk h
  have H2 := Aside0.mk h2
  have HB0 := Aside0.mk (Below.refl w.heap.size w)
  clear hc hp h h2
  go_enter Try.func62, Try.ntmps62
  go_wp2_with ((with_reducible refine gate_dst (N := 10) rfl ?_); refine Kd.R_lit (Kd.int .u64) w.heap.size 29 ?hg (N := 10) ?hd (xs := ([a] : List Int)) (inner := [.int .u64 a]) (ok := fun _ => True) (okp := fun _ => True) ?hr ?hp (fun _ hk => hk) trivial HB0.out HB0.out.size (by simp) ?_; (case hd => rfl); (case hg => rfl); (case hr => first | (go_simp; done) | (go_simp; rfl)); (case hp => exact (Reps.one (show Kd.M (Kd.int .u64) _ _ _ a [.int .u64 a] from rfl) (Reps.none _ _))); intro vq W1 ho2 hb2_ hg_ hnew_; clear hg_ hnew_; have HO := Aside0.mk ho2; have HB := Aside0.mk hb2_; clear ho2 hb2_)
  go_loopg [7, 8] k (fun kq v7 v8 w' => ∃ (x : List Int) (q : Int), v8 = .int .i64 q ∧ Aside0 (hk_lng (hk_invStep n p) m kq x q = some s) ∧ Aside0 (Kd.R (Kd.int .u64) 29 w' w.heap.size (fun _ => True) v7 x) ∧ Aside0 (Below w.heap.size w w'))
  case atStart => exact ⟨[a], 2, rfl, H, HO, HB⟩
  case round =>
    clear HO HB H
    obtain ⟨x, q, rfl, H, HO, HB⟩ := hrel
    obtain ⟨A7, c7, e7⟩ := Kd.R_slice HO.out
    subst e7
    cases gk with
    | zero => exact absurd H.out (by unfold hk_lng; simp)
    | succ k1 =>
      have h := H.out
      unfold hk_lng at h
      by_cases c : (x.length : Int) < m
      · rw [if_pos c] at h
        obtain ⟨s2, hs2, h⟩ := Option.bind_eq_some_iff.1 h
        have HS2 := Aside0.mk hs2
        have HN := Aside0.mk h
        have c1 : decide ((x.length : Int) < m) = true := decide_eq_true c
        obtain ⟨z, hz⟩ : ∃ z : Int, mn q m = z := ⟨_, rfl⟩
        have hz2 : (if m < q then m else q) = z := hz
        rw [hz] at HS2
        clear h hs2 c hz
        go_wp2_with ((go_at_call 63; (with_reducible refine (hk_inv1.calls n A0 c0 p A7 c7 x z b s2 _ ?hc ?hp ?hs HS2.out).mono ?_); (case hc => exact (HB.out.cell (World.block_lt_of_cell? w _ HC.out)).trans HC.out); (case hp => exact Kd.V_mono (Kd.V_below HP.out HB.out) (fun _ _ => trivial)); (case hs => exact Kd.R_V HO.out); rintro e w5 ⟨v5, rfl, hR_, hB_⟩; have HO5 := Aside0.mk (Kd.R_lower hR_ HB.out.size); have HB5 := Aside0.mk (HB.out.trans (hB_.mono HB.out.size)); clear hR_ hB_))
        go_roundg k1
        case measure => omega
        case rel => exact ⟨s2, wrap64 (q * 2), rfl, HN, HO5, HB5⟩
      · rw [if_neg c] at h
        obtain rfl := Option.some.inj h
        have c1 : decide ((x.length : Int) < m) = false := decide_eq_false c
        clear h c
        go_wp2_with ((go_at_call 60; (with_reducible refine (series_cut.calls n A7 c7 x m r _ (Kd.R_reads' HO.out).2.2 (Kd.R_reads' HO.out).2.1 H2.out).mono ?_); rintro e w5 ⟨v5, rfl, hR_, hB_⟩; have HO5 := Aside0.mk (Kd.R_lower hR_ HB.out.size); have HB5 := Aside0.mk (HB.out.trans (hB_.mono HB.out.size)); clear hR_ hB_))
        go_ret
        exact ⟨v5, rfl, HO5.out, HB5.out⟩
def series_inv.f (n : Nat) (p : List Int) (m : Int) : Option (List Int) := (series_first.f p).bind fun a0 => (gold_Inv.f n a0).bind fun a => (hk_lng (hk_invStep n p) m 20 [a.1] 2).bind fun s => series_cut.f n s m
set_option maxHeartbeats 8000000 in
set_option maxRecDepth 100000 in
theorem series_inv.calls (k : Nat) (A0 : Option Addr) (c0 : Nat) (l0 : List Int) (a1 : Int) (r : List Int) (w : World) (hr0 : Kd.C (Kd.int .u64) w A0 l0.length l0) (hc0 : l0.length ≤ c0) (h : series_inv.f k l0 a1 = some r) :
    Calls Try.prog 50 #[.slice A0 l0.length c0, .int .i64 a1] w fun e w' => ∃ v0_ : Value, e = .returned (v0_) ∧ Kd.R (Kd.int .u64) 29 w' w.heap.size (fun _ => True) v0_ r ∧ Below w.heap.size w w' := by
  unfold series_inv.f at h
  obtain ⟨a0, h1, h⟩ := Option.bind_eq_some_iff.1 h
  obtain ⟨⟨a, e⟩, h2, h⟩ := Option.bind_eq_some_iff.1 h
  obtain ⟨s, h3, h4⟩ := Option.bind_eq_some_iff.1 h
  have HR0 := Aside0.mk hr0
  have HC0 := Aside0.mk hc0
  have H1 := Aside0.mk h1
  have H2 := Aside0.mk h2
  have H3 := Aside0.mk h3
  have H4 := Aside0.mk h4
  have HB := Aside0.mk ((Below.refl w.heap.size w).alloc (Nat.le_refl _) (.cells #[.slice A0 l0.length c0] 22))
  have HX := Aside0.mk (show (w.alloc (.cells #[.slice A0 l0.length c0] 22)).cell? ⟨w.heap.size, 0, none⟩ = some (.slice A0 l0.length c0) by simp)
  clear hr0 hc0 h h1 h2 h3 h4
  go_enter Try.func50, Try.ntmps50
  go_wp2_with (first | (go_at_call 61; (with_reducible refine (series_first.calls A0 c0 l0 a0 _ ?hr HC0.out H1.out).mono ?_); (case hr => exact Kd.C_below HR0.out HB.out); rintro e w5 ⟨rfl, hb5⟩; have HB5 := Aside0.mk (HB.out.trans ((hk_drawn_below hb5).mono HB.out.size)); have HX5 := Aside0.mk (((hk_drawn_below hb5).cell (World.block_lt_of_cell? _ _ HX.out)).trans HX.out); clear hb5) | (go_at_call 42; (with_reducible refine (gold_Inv.calls k a0 a e _ H2.out).mono ?_); rintro e w6 ⟨rfl, hb6⟩; have HX6 := Aside0.mk ((hb6.cell (World.block_lt_of_cell? _ _ HX5.out)).trans HX5.out); have HB6 := Aside0.mk (HB5.out.trans (hb6.mono HB5.out.size)); clear hb6) | (go_at_call 62; (with_reducible refine (hk_longerInv.calls k 20 A0 c0 l0 w.heap.size a a1 s r _ HX6.out ?hp H3.out H4.out).mono ?_); (case hp => exact hk_V_of_C (Kd.C_below HR0.out HB6.out) HC0.out); rintro e w7 ⟨v7, rfl, hR_, hB_⟩; have HO7 := Aside0.mk (Kd.R_lower hR_ HB6.out.size); have HB7 := Aside0.mk (HB6.out.trans (hB_.mono HB6.out.size)); clear hR_ hB_))
  go_ret
  exact ⟨v7, rfl, HO7.out, HB7.out⟩

/-! ### poly_longest: function 53 -/
def poly_longest.l0 : Nat → Int → List (List Int) → Int → Int → Option (Int)
  | 0, _, _, _, _ => none
  | k + 1, x3, x6, x7, x8 => if x8 < x7 then (if 0 ≤ x8 then (if x8 < (x6.length : Int) then (poly_longest.l0 k (mx x3 ((rd_L1 x6 x8).length : Int)) x6 x7 (wrap64 (x8 + 1))) else (none)) else (none)) else (some x3)
def poly_longest.f (k : Nat) (l0 : List (List Int)) : Option (Int) := poly_longest.l0 k 0 l0 (l0.length : Int) 0
set_option maxHeartbeats 8000000 in
set_option maxRecDepth 100000 in
theorem poly_longest.calls (k : Nat) (A0 : Option Addr) (c0 : Nat) (l0 : List (List Int)) (r : Int) (w : World) (hr0 : Kd.C (Kd.slice 29 (Kd.int .u64)) w A0 l0.length l0) (hc0 : l0.length ≤ c0) (h : poly_longest.f k l0 = some r) :
    Calls Try.prog 53 #[.slice A0 l0.length c0] w fun e w' => e = .returned (.int .i64 r) ∧ Below w.heap.size w w' := by
  have HR0 := Aside0.mk hr0
  have HC0 := Aside0.mk hc0
  clear hr0 hc0
  have HB := Aside0.mk (Below.refl w.heap.size w)
  have H : (poly_longest.l0 k 0 l0 (l0.length : Int) 0) = some r := h
  clear h
  have H' := Aside0.mk H
  clear H
  go_enter Try.func53, Try.ntmps53
  go_wp2
  go_loopg [3, 8] k (fun kq v3 v8 w' => ∃ (x3_1 : Int) (x8_1 : Int), v3 = .int .i64 x3_1 ∧ v8 = .int .i64 x8_1 ∧ Aside0 (poly_longest.l0 kq x3_1 l0 (l0.length : Int) x8_1 = some r) ∧ Aside0 (kq ≤ k) ∧ Aside0 (Below w.heap.size w w'))
  case atStart => exact ⟨(0), (0), (by first | rfl | (simp; done) | (simp [*]; done)), (by first | rfl | (simp; done) | (simp [*]; done)), H', ⟨Nat.le_refl _⟩, ⟨by repeat (first | (with_reducible first | exact HB.out | apply below_alloc | apply pw_below_drewN | apply below_drew1) | exact HB.out)⟩⟩
  case round =>
    clear H'
    obtain ⟨x3_1, x8_1, rfl, rfl, HA, HK1, HB⟩ := hrel
    cases gk with
    | zero => exact absurd HA.out (by simp [poly_longest.l0])
    | succ k1 =>
      have H := HA.out
      clear HA
      simp only [poly_longest.l0] at H
      by_cases c2 : x8_1 < (l0.length : Int)
      · rw [if_pos c2] at H
        have c2b0 : decide (x8_1 < (l0.length : Int)) = true := decide_eq_true c2
        clear c2
        by_cases c3 : 0 ≤ x8_1
        · rw [if_pos c3] at H
          have c3b0 : decide (0 ≤ x8_1) = true := decide_eq_true c3
          clear c3
          by_cases c4 : x8_1 < (l0.length : Int)
          · rw [if_pos c4] at H
            have c4b0 : decide (x8_1 < (l0.length : Int)) = true := decide_eq_true c4
            clear c4
            obtain ⟨ji5, hji5⟩ : ∃ j_ : Int, (mx x3_1 ((rd_L1 l0 x8_1).length : Int)) = j_ := ⟨_, rfl⟩
            replace H : (poly_longest.l0 k1 ji5 l0 (l0.length : Int) (wrap64 (x8_1 + 1))) = some r := by first | (rw [hji5] at H; exact H) | (simp only [hji5] at H ⊢; exact H)
            have hji5_ : (if x3_1 < ((rd_L1 l0 x8_1).length : Int) then ((rd_L1 l0 x8_1).length : Int) else x3_1) = ji5 := hji5
            have H' := Aside0.mk H
            clear H
            have p300 : 0 ≤ (x8_1 : Int) := of_decide_eq_true (by first | (with_reducible assumption) | assumption)
            have q300 : x8_1 < (l0.length : Int) := of_decide_eq_true (by first | (with_reducible assumption) | assumption)
            obtain ⟨ad300, A300_0, c300_0, e300, hx300_0, hl300_0, hi300_0⟩ := at_L1 HR0.out x8_1 p300 q300
            cases e300
            replace hx300_0 := (HB.out.cell (World.block_lt_of_cell? w _ hx300_0)).trans hx300_0
            have HR300_0 := Aside0.mk hi300_0
            have HC300_0 := Aside0.mk hl300_0
            clear hi300_0 hl300_0
            replace p300 := eq_true p300
            replace q300 := eq_true q300
            go_wp2
            (first | go_roundg k1 | (simp only [add_plain] at *; go_roundg k1))
            case measure => have := HK1.out; omega
            case rel => exact ⟨(ji5), (wrap64 (x8_1 + 1)), (by first | rfl | (simp; done) | (simp only [← hji5] <;> (first | rfl | simp)) | (simp [*]; done)), (by first | rfl | (simp; done) | (simp [*]; done)), H', ⟨by have := HK1.out; omega⟩, ⟨by repeat (first | (with_reducible first | exact HB.out | apply below_alloc | apply pw_below_drewN | apply below_drew1) | exact HB.out)⟩⟩
          · rw [if_neg c4] at H
            exact absurd H (by simp)
        · rw [if_neg c3] at H
          exact absurd H (by simp)
      · rw [if_neg c2] at H
        have c2b0 : decide (x8_1 < (l0.length : Int)) = false := decide_eq_false c2
        clear c2
        obtain rfl := Option.some.inj H
        go_wp2
        go_ret
        exact ⟨by first | rfl | (simp [errW_none, errW_some] <;> rfl) | (simp [*, errW_none, errW_some] <;> rfl), by repeat (first | (with_reducible first | exact HB.out | apply below_alloc | apply pw_below_drewN | apply below_drew1) | exact HB.out)⟩

/-! ### poly_coefficient: function 54 -/
def poly_coefficient.f (l0 : List Int) (a1 : Int) : Option (Int) := if a1 < (l0.length : Int) then (if 0 ≤ a1 then (some (rd l0 a1)) else (none)) else (some 0)
set_option maxHeartbeats 8000000 in
set_option maxRecDepth 100000 in
theorem poly_coefficient.calls (A0 : Option Addr) (c0 : Nat) (l0 : List Int) (a1 : Int) (r : Int) (w : World) (hr0 : Kd.C (Kd.int .u64) w A0 l0.length l0) (hc0 : l0.length ≤ c0) (h : poly_coefficient.f l0 a1 = some r) :
    Calls Try.prog 54 #[.slice A0 l0.length c0, .int .i64 a1] w fun e w' => e = .returned (.int .u64 r) ∧ Drawn0 w w' := by
  have HR0 := Aside0.mk hr0
  have HC0 := Aside0.mk hc0
  clear hr0 hc0
  have H : (if a1 < (l0.length : Int) then (if 0 ≤ a1 then (some (rd l0 a1)) else (none)) else (some 0)) = some r := h
  clear h
  by_cases c3 : a1 < (l0.length : Int)
  · rw [if_pos c3] at H
    have c3b0 : decide (a1 < (l0.length : Int)) = true := decide_eq_true c3
    clear c3
    by_cases c4 : 0 ≤ a1
    · rw [if_pos c4] at H
      have c4b0 : decide (0 ≤ a1) = true := decide_eq_true c4
      clear c4
      obtain rfl := Option.some.inj H
      have p301 : 0 ≤ (a1 : Int) := of_decide_eq_true (by first | (with_reducible assumption) | assumption)
      have q301 : a1 < (l0.length : Int) := of_decide_eq_true (by first | (with_reducible assumption) | assumption)
      obtain ⟨ad301, e301, hx301_0⟩ := Kd.at_int HR0.out a1 p301 q301
      cases e301
      replace p301 := eq_true p301
      replace q301 := eq_true q301
      go_enter Try.func54, Try.ntmps54
      go_wp2
      go_ret
      exact ⟨by first | rfl | (simp; done) | (simp [*]; done), by repeat (first | exact Drawn0.refl _ | apply Drawn0.step)⟩
    · rw [if_neg c4] at H
      exact absurd H (by simp)
  · rw [if_neg c3] at H
    have c3b0 : decide (a1 < (l0.length : Int)) = false := decide_eq_false c3
    clear c3
    obtain rfl := Option.some.inj H
    go_enter Try.func54, Try.ntmps54
    go_wp2
    go_ret
    exact ⟨by first | rfl | (simp; done) | (simp [*]; done), by repeat (first | exact Drawn0.refl _ | apply Drawn0.step)⟩

end Go.Proofs.Ytkgakohgbbapaaa.PTreeValues
