-- Written for this claim by wip/gen/mk.sh, this session's own driver over the kit's print
import Derived.Test.YtkgakohgbbapaaaPTreeThroughx0
import Derived.Test.YtkgakohgbbapaaaPTreeThroughx1
import Derived.Test.YtkgakohgbbapaaaPTreeThroughx5
namespace Go.Proofs.Ytkgakohgbbapaaa.PTreeThrough
open Go.RowKit Go.Proofs.YtkgakohgbbapaaaW.PrintWords Go.Proofs.YtkgakohgbbapaaaW.PrintLast Go.Proofs.YtkgakohgbbapaaaW.PrintMore
attribute [local go_sem] max2_int min2_int max_two min_two max_three min_three max_four min_four   -- for this text's walks alone
set_option linter.unusedVariables false
set_option linter.unusedSimpArgs false

/-! ### tree_above: function 25 -/
def tree_above.l0 : Nat → List (List Int) → List (List Int) → Int → Option ((List (List Int)))
  | 0, _, _, _ => none
  | k + 1, x0, x3, x4 => if x4 < (x0.length : Int) then (if 0 ≤ x4 then (if x4 ≤ (mn (wrap64 (x4 + 2)) (x0.length : Int)) then (if (mn (wrap64 (x4 + 2)) (x0.length : Int)) ≤ (x0.length : Int) then ((tree_product.f k ((x0.take ((mn (wrap64 (x4 + 2)) (x0.length : Int)) : Int).toNat).drop (x4 : Int).toNat)).bind fun t233 => (if x3.length < 5864062014805 then (tree_above.l0 k x0 (x3 ++ [t233]) (wrap64 (x4 + 2))) else (none))) else (none)) else (none)) else (none)) else (some x3)
def tree_above.f (k : Nat) (l0 : List (List Int)) : Option ((List (List Int))) := tree_above.l0 k l0 ([] : List (List Int)) 0
set_option maxHeartbeats 80000000 in
set_option maxRecDepth 100000 in
theorem tree_above.calls (k : Nat) (A0 : Option Addr) (c0 : Nat) (l0 : List (List Int)) (r : List (List Int)) (w : World) (hr0 : Kd.C (Kd.slice 29 (Kd.int .u64)) w A0 l0.length l0) (hc0 : l0.length ≤ c0) (h : tree_above.f k l0 = some r) :
    Calls Try.prog 25 #[.slice A0 l0.length c0] w fun e w' => ∃ v0_ : Value, e = .returned (v0_) ∧ Kd.S (Kd.slice 29 (Kd.int .u64)) 22 w' w.heap.size (fun _ => True) v0_ r ∧ Below w.heap.size w w' := by
  have HR0 := Aside0.mk hr0
  have HC0 := Aside0.mk hc0
  clear hr0 hc0
  have HB := Aside0.mk (Below.refl w.heap.size w)
  have H : (tree_above.l0 k l0 ([] : List (List Int)) 0) = some r := h
  clear h
  have H' := Aside0.mk H
  clear H
  go_enter Try.func25, Try.ntmps25
  go_wp2
  go_loopg [3, 4] k (fun kq v3 v4 w' => ∃ (x3_1 : List (List Int)) (x4_1 : Int), v4 = .int .i64 x4_1 ∧ Aside0 (tree_above.l0 kq l0 x3_1 x4_1 = some r) ∧ Aside0 (kq ≤ k) ∧ Aside0 (Kd.S (Kd.slice 29 (Kd.int .u64)) 22 w' w.heap.size (fun _ => True) v3 x3_1) ∧ Aside0 (Below w.heap.size w w'))
  case atStart => exact ⟨(([] : List (List Int))), (0), (by first | rfl | (simp; done) | (simp [*]; done)), H', ⟨Nat.le_refl _⟩, ⟨by first | exact Kd.S_nil _ _ _ _ _ | exact Kd.N_nil _ _ _ _ _ | exact Kd.V_nil _ _ _ _ _ | exact Kd.Q_nil _ _ _ _ _ | exact Kd.R_nil _ _ _ _ _⟩, ⟨by repeat (first | (with_reducible first | exact HB.out | apply below_alloc | apply pw_below_drewN | apply below_drew1) | exact HB.out)⟩⟩
  case round =>
    clear H'
    obtain ⟨x3_1, x4_1, rfl, HA, HK1, HO_3, HB⟩ := hrel
    cases gk with
    | zero => exact absurd HA.out (by simp [tree_above.l0])
    | succ k1 =>
      have H := HA.out
      clear HA
      simp only [tree_above.l0] at H
      by_cases c2 : x4_1 < (l0.length : Int)
      · rw [if_pos c2] at H
        have c2b0 : decide (x4_1 < (l0.length : Int)) = true := decide_eq_true c2
        clear c2
        obtain ⟨ji3, hji3⟩ : ∃ j_ : Int, (mn (wrap64 (x4_1 + 2)) (l0.length : Int)) = j_ := ⟨_, rfl⟩
        (try (have hji3w : (mn (IntKind.i64.wrap (x4_1 + 2)) (l0.length : Int)) = ji3 := by simpa only [i64_w] using hji3))
        replace H : (if 0 ≤ x4_1 then (if x4_1 ≤ (ji3) then (if (ji3) ≤ (l0.length : Int) then ((tree_product.f k1 ((l0.take ((ji3) : Int).toNat).drop (x4_1 : Int).toNat)).bind fun t233 => (if x3_1.length < 5864062014805 then (tree_above.l0 k1 l0 (x3_1 ++ [t233]) (wrap64 (x4_1 + 2))) else (none))) else (none)) else (none)) else (none)) = some r := by first | (rw [hji3] at H; exact H) | (simp only [hji3] at H ⊢; exact H)
        have hji3_ : (if (l0.length : Int) < (wrap64 (x4_1 + 2)) then (l0.length : Int) else (wrap64 (x4_1 + 2))) = ji3 := hji3
        by_cases c4 : 0 ≤ x4_1
        · rw [if_pos c4] at H
          have c4b0 := eq_true c4
          have c4b1 : decide (0 ≤ x4_1) = true := decide_eq_true c4
          clear c4
          by_cases c5 : x4_1 ≤ (ji3)
          · rw [if_pos c5] at H
            have c5b0 := eq_true c5
            have c5b1 : decide (x4_1 ≤ (ji3)) = true := decide_eq_true c5
            clear c5
            by_cases c6 : (ji3) ≤ (l0.length : Int)
            · rw [if_pos c6] at H
              have c6b0 := eq_true c6
              have LTc6 := Aside0.mk (show (((l0.take ((ji3) : Int).toNat).length : Int) = max (ji3) 0) by rw [List.length_take]; omega)
              (try (have LDc6 := Aside0.mk (show ∀ lo_ : Nat, (((l0.take ((ji3) : Int).toNat).drop lo_).length : Int) = ((((ji3) : Int).toNat - lo_ : Nat) : Int) from fun lo_ => by rw [List.length_drop, List.length_take]; omega)))
              have c6b1 : decide ((ji3) ≤ (l0.length : Int)) = true := decide_eq_true c6
              clear c6
              obtain ⟨y229, hy229⟩ : ∃ y_ : List (List Int), y_ = ((l0.take ((ji3) : Int).toNat).drop (x4_1 : Int).toNat) := ⟨_, rfl⟩
              replace H : ((tree_product.f k1 y229).bind fun t233 => (if x3_1.length < 5864062014805 then (tree_above.l0 k1 l0 (x3_1 ++ [t233]) (wrap64 (x4_1 + 2))) else (none))) = some r := by first | (rw [hy229]; with_reducible exact H) | (have H2_ := (Option.bind_some _ _).symm.trans H; rw [hy229]; with_reducible exact H2_) | (have H2_ := (Option.bind_some _ _).symm.trans H; with_reducible exact H2_) | with_reducible exact H | (rw [hy229]; exact H) | exact H
              have Ny229 := Aside0.mk hy229
              clear hy229
              replace H := Option.bind_eq_some_iff.mp H
              obtain ⟨t233, A70, H⟩ := H
              replace H : (if x3_1.length < 5864062014805 then (tree_above.l0 k1 l0 (x3_1 ++ [t233]) (wrap64 (x4_1 + 2))) else (none)) = some r := H
              have A7 := Aside0.mk A70
              clear A70
              by_cases c8 : x3_1.length < 5864062014805
              · rw [if_pos c8] at H
                have LMc8 := Aside0.mk c8
                clear c8
                obtain ⟨y236, hy236⟩ : ∃ y_ : List (List Int), y_ = (x3_1 ++ [t233]) := ⟨_, rfl⟩
                replace H : (tree_above.l0 k1 l0 y236 (wrap64 (x4_1 + 2))) = some r := by first | (rw [hy236]; with_reducible exact H) | (have H2_ := (Option.bind_some _ _).symm.trans H; rw [hy236]; with_reducible exact H2_) | (have H2_ := (Option.bind_some _ _).symm.trans H; with_reducible exact H2_) | with_reducible exact H | (rw [hy236]; exact H) | exact H
                have Ny236 := Aside0.mk hy236
                clear hy236
                have H' := Aside0.mk H
                clear H
                have q9 : ((ji3) : Int) ≤ ((l0.length : Int) : Int) := of_decide_eq_true (by first | (with_reducible assumption) | assumption)
                obtain ⟨i09, hi09, _, hsz9, _⟩ := info_parts info22
                have hroom9 : l0.length ≤ c0 := HC0.out
                have hC9 : Kd.C (Kd.slice 29 (Kd.int .u64)) _ A0 l0.length l0 := HR0.out
                have ql9 : (x4_1 : Int) ≤ ((ji3) : Int) := of_decide_eq_true (by first | (with_reducible assumption) | assumption)
                have q09 : (0 : Int) ≤ (x4_1 : Int) := of_decide_eq_true (by first | (with_reducible assumption) | assumption)
                have hcut9 := cut_mid (P := Try.prog) 46 22 .i64 .i64 Try.underlying46 hi09 1 hsz9 A0 l0.length c0 x4_1 (ji3) q09 ql9 q9 hroom9
                have hr9 := Kd.C_mid (lo := (x4_1 : Int).toNat) (hi := ((ji3) : Int).toNat) (c := c0) hC9 (by omega) (by omega) hroom9
                obtain ⟨A9, hA9⟩ : ∃ A1, A1 = (if c0 = (x4_1 : Int).toNat then A0 else (A0 : Option Addr).map (·.add ((x4_1 : Int).toNat * 1))) := ⟨_, rfl⟩
                obtain ⟨c9, hc9⟩ : ∃ c1, c1 = c0 - (x4_1 : Int).toNat := ⟨_, rfl⟩
                have hy9 : y229.length = ((ji3) : Int).toNat - (x4_1 : Int).toNat := (by rw [Ny229.out, List.length_drop, List.length_take] <;> omega)
                rw [show ((l0).take ((ji3) : Int).toNat).drop (x4_1 : Int).toNat = y229 from Ny229.out.symm] at hr9
                replace hr9 : Kd.C (Kd.slice 29 (Kd.int .u64)) _ A9 y229.length y229 := (by rw [hA9]; exact hr9)
                rw [← hy9, ← hA9, ← hc9] at hcut9
                have HR232 := Aside0.mk hr9
                have HC232 := Aside0.mk (show y229.length ≤ c9 from by rw [hy9, hc9]; exact Nat.sub_le_sub_right (Nat.le_trans (by omega) hroom9) _)
                clear hr9 hC9 hroom9 hi09 hsz9 hc9
                have KY9 := Aside0.mk hy9
                have KA9 := Aside0.mk hA9
                clear hy9 hA9
                replace q9 := eq_true q9
                go_wp2_with (first | ((with_reducible refine gate_callee (f := 36) rfl ?_); refine goesL_ (some 20) rfl rfl Try.func36 (by kernel_rfl) rfl #[.slice A9 y229.length c9] rfl (by (try simp only [List.map_toArray, List.map_cons, List.map_nil]); first | done | rfl | (simp only [List.length_drop, List.length_take]; rfl)) ?_; (with_reducible refine (tree_product.calls k1 _ _ y229 t233 _ ?side1 ?side2 A7.out).mono ?_); (case side1 => repeat (first | exact (Kd.C_below HR232.out HB.out) | (with_reducible refine Kd.C_alloc ?_ _) | (with_reducible refine Kd.C_drewN ?_ _) | (with_reducible refine Kd.C_drew ?_))); (case side2 => exact HC232.out); rintro e w10 ⟨v234, rfl, ho0, hb⟩; refine ⟨_, rfl, ?_⟩; have n0_ := Aside0.mk (Kd.S_elder' (by (with_reducible repeat (first | apply Kd.S_alloc | apply Kd.S_drewN | apply Kd.S_drew)); exact HO_3.out) (Kd.R_base ho0) hb); have n1_ := Aside0.mk (Kd.R_lower ho0 (below_size (by repeat (first | (with_reducible first | exact HB.out | apply below_alloc | apply pw_below_drewN | apply below_drew1) | exact HB.out)))); have n2_ := Aside0.mk (below_step (by repeat (first | (with_reducible first | exact HB.out | apply below_alloc | apply pw_below_drewN | apply below_drew1) | exact HB.out)) hb); clear HO_3; clear HB; have HO_3 := n0_; have HO235 := n1_; have HB := n2_; clear n0_ n1_ n2_; (try clear hb); (try clear hb2); (try clear hk); (try clear hi); (try clear ho0); obtain ⟨Ao12, co12, eo12⟩ := Kd.R_slice HO235.out; subst eo12) | (go_at_call 36; (with_reducible refine (tree_product.calls k1 _ _ y229 t233 _ ?side1 ?side2 A7.out).mono ?_); (case side1 => repeat (first | exact (Kd.C_below HR232.out HB.out) | (with_reducible refine Kd.C_alloc ?_ _) | (with_reducible refine Kd.C_drewN ?_ _) | (with_reducible refine Kd.C_drew ?_))); (case side2 => exact HC232.out); rintro e w10 ⟨v234, rfl, ho0, hb⟩; have n0_ := Aside0.mk (Kd.S_elder' (by (with_reducible repeat (first | apply Kd.S_alloc | apply Kd.S_drewN | apply Kd.S_drew)); exact HO_3.out) (Kd.R_base ho0) hb); have n1_ := Aside0.mk (Kd.R_lower ho0 (below_size (by repeat (first | (with_reducible first | exact HB.out | apply below_alloc | apply pw_below_drewN | apply below_drew1) | exact HB.out)))); have n2_ := Aside0.mk (below_step (by repeat (first | (with_reducible first | exact HB.out | apply below_alloc | apply pw_below_drewN | apply below_drew1) | exact HB.out)) hb); clear HO_3; clear HB; have HO_3 := n0_; have HO235 := n1_; have HB := n2_; clear n0_ n1_ n2_; (try clear hb); (try clear hb2); (try clear hk); (try clear hi); (try clear ho0); obtain ⟨Ao12, co12, eo12⟩ := Kd.R_slice HO235.out; subst eo12) | ((with_reducible refine gate_builtin (b := .append) (xs := #[.tmp 11, .tmp 21]) rfl ?_); at_builtin; refine Kd.S_append (Kd.slice 29 (Kd.int .u64)) (w0 := w) w.heap.size rfl (.tmp 11) (.tmp 21) 46 22 (.slice none 0 0) 24 rfl Try.underlying46 info22 rfl (by decide) (by omega) u3 x3_1 t233 [.slice Ao12 t233.length co12] (fun _ => True) (fun k_ => some k_ = (.slice Ao12 t233.length co12 : Value).ownBlock) rfl rfl ?aP (fun k_ hk_ => ((Kd.R_mono (ok' := fun k_ => ((fun _ => True)) k_ ∧ some k_ ≠ (u3 : Value).ownBlock) (Kd.R_apart' (HO235.out) (Kd.S_typed HO_3.out) (by decide)) (fun k_ hk => ⟨trivial, hk.2⟩))).1 k_ hk_.symm) ?aF ?aO ?aB ?aS ?aL ?_; (case aP => exact Kd.M_row (Kd.R_mono (Kd.R_tight rfl (Kd.R_mono (ok' := fun k_ => ((fun _ => True)) k_ ∧ some k_ ≠ (u3 : Value).ownBlock) (Kd.R_apart' (HO235.out) (Kd.S_typed HO_3.out) (by decide)) (fun k_ hk => ⟨trivial, hk.2⟩))) (fun _ h_ => h_))); (case aB => exact (by repeat (first | (with_reducible first | exact HB.out | apply below_alloc | apply pw_below_drewN | apply below_drew1) | exact HB.out))); (case aF => exact (fun _ _ => trivial)); (case aO => exact (by (with_reducible repeat (first | apply Kd.S_alloc | apply Kd.S_drewN | apply Kd.S_drew)); exact Kd.S_mono HO_3.out (fun k_ hk => ⟨trivial, fun e_ => hk.2 e_⟩))); (case aS => exact (below_size (by repeat (first | (with_reducible first | exact HB.out | apply below_alloc | apply pw_below_drewN | apply below_drew1) | exact HB.out)))); (case aL => have := LMc8.out; omega); intro v237 w11 ho hb hg hat; rw [← Ny236.out] at ho; have n0_ := Aside0.mk (hb); have n1_ := Aside0.mk (ho); clear HB; clear HO_3; clear HO235; have HB := n0_; have HO238 := n1_; clear n0_ n1_; clear ho hb hg hat))
                (first | go_roundg k1 | (simp only [add_plain] at *; go_roundg k1))
                case measure => have := HK1.out; omega
                case rel => exact ⟨(y236), (wrap64 (x4_1 + 2)), (by first | rfl | (simp; done) | (simp [*]; done)), H', ⟨by have := HK1.out; omega⟩, ⟨by (with_reducible repeat (first | apply Kd.S_alloc | apply Kd.S_drewN | apply Kd.S_drew)); exact HO238.out⟩, ⟨by repeat (first | (with_reducible first | exact HB.out | apply below_alloc | apply pw_below_drewN | apply below_drew1) | exact HB.out)⟩⟩
              · rw [if_neg c8] at H
                exact absurd H (by simp)
            · rw [if_neg c6] at H
              exact absurd H (by simp)
          · rw [if_neg c5] at H
            exact absurd H (by simp)
        · rw [if_neg c4] at H
          exact absurd H (by simp)
      · rw [if_neg c2] at H
        have c2b0 : decide (x4_1 < (l0.length : Int)) = false := decide_eq_false c2
        clear c2
        obtain rfl := Option.some.inj H
        go_wp2
        go_ret
        exact ⟨_, by first | rfl | (simp [errW_none, errW_some] <;> rfl) | (simp [*, errW_none, errW_some] <;> rfl), by (with_reducible repeat (first | apply Kd.S_alloc | apply Kd.S_drewN | apply Kd.S_drew)); exact HO_3.out, by repeat (first | (with_reducible first | exact HB.out | apply below_alloc | apply pw_below_drewN | apply below_drew1) | exact HB.out)⟩

/-! ### tree_New: function 8 (by hand) -/
theorem hk_infoTw : (Try.prog.info? 29).map (fun i => (i.zero, i.size, i.bytes)) = some (some (.int .u64 0), 1, 8) := by kernel_rfl
theorem hk_infoTu : (Try.prog.info? 22).map (fun i => (i.zero, i.size, i.bytes)) = some (some (.slice none 0 0), 1, 24) := by kernel_rfl
theorem hk_infoTuu : (Try.prog.info? 46).map (fun i => (i.zero, i.size, i.bytes)) = some (some (.slice none 0 0), 1, 24) := by kernel_rfl
theorem hk_new_lt {W : World} {g : Nat} {o : Obj} (h : W.heap[g]? = some o) : g < W.heap.size := by
  rcases Nat.lt_or_ge g W.heap.size with c | c
  · exact c
  · simp [Array.getElem?_eq_none c] at h
/-- A row of words that lies as it was built. -/
theorem hk_lit_F {W : World} {b e : Nat} (l : List Int) (h : W.heap[b]? = some (.cells (l.map (Value.int .u64)).toArray e (0, 0))) (hl : l.length ≤ 9223372036854775807) : Kd.F (Kd.int .u64) W (fun k => k = b) (some ⟨b, 0, none⟩) l.length l := by
  intro W' hW
  have h1 := (hW b rfl (hk_new_lt h)).trans h
  refine Kd.C_of_reads (d := (0 : Int)) (h1 := fun _ => rfl) ⟨rfl, hl, fun hn => ⟨_, rfl, fun j hj => ?_⟩⟩
  show W'.cell? ((⟨b, 0, none⟩ : Addr).add j) = _
  rw [add_at, Nat.zero_add]
  refine hk_blk_cell h1 j _ ?_
  simp [List.getD_eq_getElem?_getD, List.getElem?_eq_getElem hj]
/-- The tree stands at g: its points and its levels read as such rows. -/
def hk_T (W : World) (g : Nat) (ps : List Int) (L : List (List (List Int))) : Prop :=
  ∃ A0 c0 A1 c1, W.heap[g]? = some (.cells #[.slice A0 ps.length c0, .slice A1 L.length c1] 45 (0, 0)) ∧ ps.length ≤ c0 ∧ L.length ≤ c1 ∧ Kd.C (Kd.int .u64) W A0 ps.length ps ∧ Kd.C (Kd.slice 22 (Kd.slice 29 (Kd.int .u64))) W A1 L.length L
theorem hk_T.below {W W1 : World} {g : Nat} {ps : List Int} {L : List (List (List Int))} (h : hk_T W g ps L) (hb : Below W.heap.size W W1) : hk_T W1 g ps L := by
  obtain ⟨A0, c0, A1, c1, h1, h2, h3, h4, h5⟩ := h
  exact ⟨A0, c0, A1, c1, blk_below h1 hb, h2, h3, Kd.C_below h4 hb, Kd.C_below h5 hb⟩
def hk_ofs (l : List Int) : List Int := l.map fun x => (gold_Of.f x).getD 0
def hk_lin (x : Int) : List Int := [(gold_Neg.f x).getD 0, 1]
theorem hk_ofs_len (l : List Int) : (hk_ofs l).length = l.length := List.length_map _
theorem hk_ofs_snoc (l : List Int) (x y : Int) (h : gold_Of.f x = some y) : hk_ofs (l ++ [x]) = hk_ofs l ++ [y] := by unfold hk_ofs; rw [List.map_append, List.map_cons, List.map_nil, h]; rfl
theorem hk_lin_snoc (l : List Int) (x z : Int) (h : gold_Neg.f x = some z) : (l ++ [x]).map hk_lin = l.map hk_lin ++ [[z, 1]] := by rw [List.map_append, List.map_cons, List.map_nil]; unfold hk_lin; rw [h]; rfl
def tree_New.l1 : Nat → List (List Int) → List (List (List Int)) → Option (List (List (List Int)))
  | 0, _, _ => none
  | k + 1, cur, L => if 1 < cur.length then (tree_above.f k cur).bind fun n => (if L.length < 4294967296 then tree_New.l1 k n (L ++ [n]) else none) else some L
def tree_New.f (k : Nat) (l0 : List Int) : Option (List (List (List Int))) :=
  if 0 < l0.length ∧ l0.length ≤ 4096 ∧ (l0.all fun x => (gold_Of.f x).isSome && (gold_Neg.f x).isSome) = true then tree_New.l1 k (l0.map hk_lin) [l0.map hk_lin] else none
def tree_New.Post (w : World) (ps : List Int) (L : List (List (List Int))) (e : Ending) (w' : World) : Prop :=
  ∃ g, e = .returned (.tuple #[.pointer (some ⟨g, 0, none⟩), .int .i64 0]) ∧ hk_T w' g ps L ∧ w.heap.size ≤ g ∧ Below w.heap.size w w'
set_option maxHeartbeats 2000000 in
set_option maxRecDepth 100000 in
theorem tree_New.calls (k : Nat) (A0 : Option Addr) (c0 : Nat) (l0 : List Int) (LL : List (List (List Int))) (w : World) (hr0 : Kd.C (Kd.int .u64) w A0 l0.length l0) (hc0 : l0.length ≤ c0) (h : tree_New.f k l0 = some LL) :
    Calls Try.prog 8 #[.slice A0 l0.length c0] w (tree_New.Post w (hk_ofs l0) LL) := by
  have h0 : 0 < l0.length ∧ l0.length ≤ 4096 ∧ (l0.all fun x => (gold_Of.f x).isSome && (gold_Neg.f x).isSome) = true := by
    by_cases c : 0 < l0.length ∧ l0.length ≤ 4096 ∧ (l0.all fun x => (gold_Of.f x).isSome && (gold_Neg.f x).isSome) = true
    · exact c
    · unfold tree_New.f at h; rw [if_neg c] at h; cases h
  unfold tree_New.f at h
  rw [if_pos h0] at h
  obtain ⟨h1, h2, h3⟩ := h0
  have hof : ∀ x ∈ l0, ∃ y z, gold_Of.f x = some y ∧ gold_Neg.f x = some z := fun x hx => by
    have h4 := List.all_eq_true.1 h3 x hx
    simp only [Bool.and_eq_true] at h4
    obtain ⟨y, hy⟩ := Option.isSome_iff_exists.1 h4.1
    obtain ⟨z, hz⟩ := Option.isSome_iff_exists.1 h4.2
    exact ⟨y, z, hy, hz⟩
  have HA0 := Aside0.mk h
  clear h h3
  have HR := Aside0.mk hr0
  have HC := Aside0.mk hc0
  have HF := Aside0.mk hof
  have H2 := Aside0.mk h2
  have p1 : ((l0.length : Int) == 0) = false := beq_eq_false_iff_ne.2 (by omega)
  have p2 : decide (4096 < (l0.length : Int)) = false := decide_eq_false (by omega)
  have p3 : decide (4096 < l0.length) = false := decide_eq_false (by omega)
  have p4 : (l0.length == 0) = false := beq_eq_false_iff_ne.2 (by omega)
  clear hr0 hc0 h1 h2 hof
  go_enter Try.func8, Try.ntmps8
  go_wp2
  obtain ⟨g, hg⟩ : ∃ g, g = w.heap.size := ⟨_, rfl⟩
  have HG := Aside0.mk hg
  have HB0 : Aside0 (Below w.heap.size w (w.alloc (.cells #[.slice none 0 0, .slice none 0 0] 45))) := ⟨below_alloc (Below.refl _ _) _⟩
  have HK0 : Aside0 ((w.alloc (.cells #[.slice none 0 0, .slice none 0 0] 45)).heap[g]? = some (.cells #[.slice none 0 0, .slice none 0 0] 45 (0, 0))) := ⟨by rw [hg]; simp [World.alloc, -World.alloc_eq]⟩
  rw [← hg]
  generalize w.alloc (.cells #[.slice none 0 0, .slice none 0 0] 45) = W0 at HB0 HK0 ⊢
  have HGW := Aside0.mk (show w.heap.size ≤ g by omega)
  clear hg
  go_loopg [5, 20] (l0.length) (fun kq v5 v20 w' => ∃ (i : Nat) (vp : Value), v20 = .int .i64 (i : Int) ∧ Aside0 (i + kq = l0.length) ∧ Aside0 (w'.heap[g]? = some (.cells #[vp, .slice none 0 0] 45 (0, 0))) ∧ Aside0 (Kd.R (Kd.int .u64) 29 w' w.heap.size (fun _ => True) vp (hk_ofs (l0.take i))) ∧ Aside0 (Kd.N (Kd.slice 29 (Kd.int .u64)) 22 w' w.heap.size (fun k => k ≠ g ∧ some k ≠ vp.ownBlock) v5 ((l0.take i).map hk_lin)) ∧ Aside0 (Below w.heap.size w w'))
  case atStart => exact ⟨0, _, by simp, ⟨by omega⟩, HK0, ⟨Kd.R_nil _ _ _ _ _⟩, ⟨Kd.N_nil _ _ _ _ _⟩, HB0⟩
  case round =>
    clear HK0 HB0 p1 p2 p3 p4
    obtain ⟨i, vp, rfl, HI, HK, HP, HV, HB⟩ := hrel
    cases gk with
    | zero =>
      have hi := HI.out
      have hil : i = l0.length := by omega
      subst hil
      rw [List.take_length] at HP HV
      have HLV : Aside0 ((l0.map hk_lin).length = l0.length) := ⟨List.length_map _⟩
      generalize l0.map hk_lin = lv at HV HA0 HLV
      obtain ⟨A5, c5, rfl⟩ := Kd.N_slice HV.out
      have q1 : decide ((l0.length : Int) < (l0.length : Int)) = false := decide_eq_false (by omega)
      have q2 : (l0.length < l0.length) = False := eq_false (by omega)
      have q3 : decide (l0.length < l0.length) = false := decide_eq_false (by omega)
      have HGL := Aside0.mk (hk_new_lt HK.out)
      have hc0 := hk_blk_cell HK.out 1 (.slice none 0 0) rfl
      have hcl : (lv.length : Nat) ≤ c5 := (Kd.N_reads' HV.out).2.1
      have HCL := Aside0.mk hcl
      have HA3 := Aside0.mk (show (([] : List (List (List Int))).length + 1) * 24 ≤ 140737488355328 by decide)
      have HNE : Aside0 (some g ≠ (Value.slice none 0 0).ownBlock) := ⟨by simp [Value.ownBlock]⟩
      clear hi hcl
      go_wp2_with (((with_reducible refine gate_builtin (b := .append) (xs := #[.tmp 46, .tmp 48]) rfl ?_); at_builtin; (refine Kd.N_append (Kd.slice 22 (Kd.slice 29 (Kd.int .u64))) (w0 := w) w.heap.size rfl (.tmp 46) (.tmp 48) 43 46 (.slice none 0 0) 24 rfl Try.underlying43 hk_infoTuu rfl (by decide) (by omega) (.slice none 0 0) [] lv [.slice A5 lv.length c5] (fun k => k ≠ g ∧ some k ≠ vp.ownBlock) (fun k => k ≠ g ∧ some k ≠ vp.ownBlock) (by rfl) ?aX ?aP ?aK ?aF ?aO ?aB ?aS ?aL ?_; (case aX => rfl); (case aP => exact Kd.FK_slice_mk HCL.out (Kd.N_F HV.out)); (case aK => exact (fun k hk => ⟨hk, by simp [Value.ownBlock]⟩)); (case aF => exact (fun k hk => ⟨fun e => by have := HGL.out; omega, fun e => by have := Kd.R_lt HP.out _ e.symm; omega⟩)); (case aO => exact Kd.N_nil _ _ _ _ _); (case aB => exact HB.out); (case aS => exact HB.out.size); (case aL => exact HA3.out); intro v3 w3 hn hb hg hat; obtain ⟨A3, c3, rfl⟩ := Kd.N_slice hn; have hc1 : w3.cell? ⟨g, 1, none⟩ = some (.slice none 0 0) := (hg.cell_far ⟨g, 1, none⟩ HGL.out HNE.out).trans hc0; have hf1 : w3.frozen? ⟨g, 1, none⟩ = false := (hg.frozen_far ⟨g, 1, none⟩ HGL.out HNE.out).trans (hk_blk_frozen HK.out 1))))
      have hK1 : w3.heap[g]? = some (.cells #[vp, .slice none 0 0] 45 (0, 0)) := (hg.block g HGL.out HNE.out).trans HK.out
      have hK2 := blk_put hK1 1 (.slice A3 ([] ++ [lv]).length c3) rfl
      have hP2 := Kd.R_set (Kd.R_grown2 HP.out rfl hg (fun k hk => by simp [Value.ownBlock] at hk)) hK1 (by decide) 1 (.slice A3 ([] ++ [lv]).length c3)
      have hL2 := Kd.N_far hn (p := ⟨g, 1, none⟩) (fun k hk => hk.1) (.slice A3 ([] ++ [lv]).length c3)
      have hB2 := below_set (j := 1) (v := .slice A3 ([] ++ [lv]).length c3) hb HGW.out
      have hC2 := Kd.F_far (Kd.F_grown (Kd.N_F HV.out) hg (fun k hk => by simp [Value.ownBlock])) (p := ⟨g, 1, none⟩) (fun k hk => hk.1) (.slice A3 ([] ++ [lv]).length c3)
      clear HK HV HB HP HI hc0 hb hg hat hn hc1 hf1 hK1 HNE HGL q1 q2 q3
      go_loopg [5] k (fun kq v5 w' => ∃ (cur : List (List Int)) (L : List (List (List Int))) (A5 : Option Addr) (c5 : Nat) (A4 : Option Addr) (c4 : Nat), v5 = .slice A5 cur.length c5 ∧ Aside0 (tree_New.l1 kq cur L = some LL) ∧ Aside0 (w'.heap[g]? = some (.cells #[vp, .slice A4 L.length c4] 45 (0, 0))) ∧ Aside0 (Kd.R (Kd.int .u64) 29 w' w.heap.size (fun _ => True) vp (hk_ofs l0)) ∧ Aside0 (Kd.N (Kd.slice 22 (Kd.slice 29 (Kd.int .u64))) 46 w' w.heap.size (fun k => k ≠ g ∧ some k ≠ vp.ownBlock) (.slice A4 L.length c4) L) ∧ Aside0 (cur.length ≤ c5) ∧ Aside0 (Kd.F (Kd.slice 29 (Kd.int .u64)) w' (fun k => k ≠ g) A5 cur.length cur) ∧ Aside0 (Below w.heap.size w w'))
      case atStart => exact ⟨lv, [lv], A5, c5, A3, _, rfl, HA0, ⟨hK2⟩, ⟨hP2⟩, ⟨hL2⟩, HCL, ⟨Kd.F_mono hC2 (fun k hk => hk.1)⟩, ⟨hB2⟩⟩
      case round =>
        clear HA0 hK2 hP2 hL2 HCL hC2 hB2 HLV
        obtain ⟨cur, L, A5, c5, A4, c4, rfl, HA, HK, HP, HL, HCL, HC, HB⟩ := hrel
        cases gk with
        | zero => exact absurd HA.out (by simp [tree_New.l1])
        | succ k1 =>
          have H := HA.out
          clear HA
          simp only [tree_New.l1] at H
          by_cases c : 1 < cur.length
          · rw [if_pos c] at H
            obtain ⟨n, hn0, H⟩ := Option.bind_eq_some_iff.1 H
            by_cases cL : L.length < 4294967296
            · rw [if_pos cL] at H
              have HA2 := Aside0.mk hn0
              have HA1 := Aside0.mk H
              have HA3 := Aside0.mk (show (L.length + 1) * 24 ≤ 140737488355328 by omega)
              have c1 : decide ((1 : Int) < (cur.length : Int)) = true := decide_eq_true (by omega)
              have c2 : decide (1 < cur.length) = true := decide_eq_true c
              have c3 := eq_true c
              have HNE : Aside0 (some g ≠ (Value.slice A4 L.length c4).ownBlock) := ⟨Kd.N_away HL.out (fun k hk => hk.1)⟩
              have HM := Aside0.mk (show ∀ (W6 : World) (k : Nat), wr.heap.size ≤ k ∧ k < W6.heap.size → (k ≠ g ∧ some k ≠ vp.ownBlock) ∧ some k ≠ (Value.slice A4 L.length c4).ownBlock from fun W6 k hk =>
                ⟨⟨fun e => by have := hk_new_lt HK.out; omega, fun e => by have := Kd.R_lt HP.out _ e.symm; omega⟩, fun e => by have := Kd.N_lt HL.out _ e.symm; omega⟩)
              have HM2 := Aside0.mk (show ∀ k, wr.heap.size ≤ k → (k ≠ g ∧ some k ≠ vp.ownBlock) from fun k hk =>
                ⟨fun e => by have := hk_new_lt HK.out; omega, fun e => by have := Kd.R_lt HP.out _ e.symm; omega⟩)
              clear hn0 H c cL
              go_wp2_with (first | (go_at_call 25; (with_reducible refine (tree_above.calls k1 A5 c5 cur n _ (Kd.F_now HC.out) HCL.out HA2.out).mono ?_); rintro e w6 ⟨v6, rfl, hS6, hb6⟩; obtain ⟨A6, c6, rfl⟩ := Kd.S_slice hS6; have hn6 := (Kd.S_reads' hS6).2.1; have hF6 : Kd.F (Kd.slice 29 (Kd.int .u64)) w6 (fun k => wr.heap.size ≤ k ∧ k < w6.heap.size) A6 n.length n := Kd.F_mono (Kd.S_F (Kd.S_bound hS6)) (fun k hk => ⟨hk.2.1, hk.2.2.1⟩); have hK6 := blk_below HK.out hb6; have hc6 := hk_blk_cell hK6 1 (.slice A4 L.length c4) rfl; have hgl6 := hk_new_lt hK6; have hN6 := Kd.N_below HL.out hb6; have hne6 : some g ≠ (Value.slice A4 L.length c4).ownBlock := HNE.out; have hB6 := below_step HB.out hb6; have hP6 := Kd.R_below HP.out hb6; have hM6 : ∀ k, wr.heap.size ≤ k ∧ k < w6.heap.size → (k ≠ g ∧ some k ≠ vp.ownBlock) ∧ some k ≠ (Value.slice A4 L.length c4).ownBlock := HM.out w6; have hM7 : ∀ k, w6.heap.size ≤ k → k ≠ g ∧ some k ≠ vp.ownBlock := fun k hk => HM2.out k (Nat.le_trans hb6.size hk)) | ((with_reducible refine gate_builtin (b := .append) (xs := #[.tmp 61, .tmp 63]) rfl ?_); at_builtin; refine Kd.N_append (Kd.slice 22 (Kd.slice 29 (Kd.int .u64))) (w0 := w) w.heap.size rfl (.tmp 61) (.tmp 63) 43 46 (.slice none 0 0) 24 rfl Try.underlying43 hk_infoTuu rfl (by decide) (by omega) (.slice A4 L.length c4) L n [.slice A6 n.length c6] (fun k => k ≠ g ∧ some k ≠ vp.ownBlock) (fun k => wr.heap.size ≤ k ∧ k < w6.heap.size) (by rfl) ?aX ?aP ?aK ?aF ?aO ?aB ?aS ?aL ?_; (case aX => rfl); (case aP => exact Kd.FK_slice_mk hn6 hF6); (case aK => exact hM6); (case aF => exact hM7); (case aO => exact hN6); (case aB => exact hB6); (case aS => exact hB6.size); (case aL => exact HA3.out); intro v3 w3 hn hb hg hat; obtain ⟨A3, c3, rfl⟩ := Kd.N_slice hn; have hc1 : w3.cell? ⟨g, 1, none⟩ = some (.slice A4 L.length c4) := (hg.cell_far ⟨g, 1, none⟩ hgl6 hne6).trans hc6; have hf1 : w3.frozen? ⟨g, 1, none⟩ = false := (hg.frozen_far ⟨g, 1, none⟩ hgl6 hne6).trans (hk_blk_frozen hK6 1)))
              have hK7 : w3.heap[g]? = some (.cells #[vp, .slice A4 L.length c4] 45 (0, 0)) := blk_grown hK6 hg hne6
              have hK8 := blk_put hK7 1 (.slice A3 (L ++ [n]).length c3) rfl
              have hP8 := Kd.R_set (Kd.R_grown2 hP6 rfl hg (fun k hk => (hN6.1 k hk).2)) hK7 (by decide) 1 (.slice A3 (L ++ [n]).length c3)
              have hL8 := Kd.N_far hn (p := ⟨g, 1, none⟩) (fun k hk => hk.1) (.slice A3 (L ++ [n]).length c3)
              have hB8 := below_set (j := 1) (v := .slice A3 (L ++ [n]).length c3) hb HGW.out
              have hC8 := Kd.F_far (Kd.F_grown hF6 hg (fun k hk => (hM6 k hk).2)) (p := ⟨g, 1, none⟩) (fun k hk => (hM6 k hk).1.1) (.slice A3 (L ++ [n]).length c3)
              have hC9 := Kd.F_mono hC8 (ok' := fun k => k ≠ g) (fun k hk => (hM6 k hk).1.1)
              have eL : (L ++ [n]).length = L.length + 1 := by simp
              rw [← eL]
              clear eL
              clear hC8 hK7 hN6 hP6 hK6 hF6 hS6 hg hat hc1 hf1 HNE HM HM2 hM6 hM7 hc6 hb hn
              go_roundg k1
              case rel => exact ⟨n, L ++ [n], A6, c6, A3, c3, rfl, HA1, ⟨hK8⟩, ⟨hP8⟩, ⟨hL8⟩, ⟨hn6⟩, ⟨hC9⟩, ⟨hB8⟩⟩
              case measure => exact Nat.lt_succ_self _
            · rw [if_neg cL] at H; cases H
          · rw [if_neg c] at H
            obtain rfl := Option.some.inj H
            have c1 : decide ((1 : Int) < (cur.length : Int)) = false := decide_eq_false (by omega)
            have c2 : decide (1 < cur.length) = false := decide_eq_false c
            have c3 := eq_false c
            clear H c
            go_wp2
            go_ret2
            refine ⟨g, rfl, ?_, HGW.out, HB.out⟩
            obtain ⟨AP, cP, rfl⟩ := Kd.R_slice HP.out
            exact ⟨AP, cP, A4, c4, HK.out, (Kd.R_reads' HP.out).2.1, (Kd.N_reads' HL.out).2.1, (Kd.R_reads' HP.out).2.2, (Kd.N_reads' HL.out).2.2⟩
    | succ k1 =>
      have hi := HI.out
      have hil : i < l0.length := by omega
      obtain ⟨y, z, hy, hz⟩ := HF.out (l0[i]'hil) (List.getElem_mem hil)
      have c1 : decide ((i : Int) < (l0.length : Int)) = true := decide_eq_true (by omega)
      have c2 : (i < l0.length) = True := eq_true hil
      have c3 : (0 ≤ (i : Int)) = True := eq_true (by omega)
      have c4 : ((i : Int) < (l0.length : Int)) = True := eq_true (by omega)
      obtain ⟨ad, e0, hx⟩ := Kd.at_int HR.out (i : Int) (by omega) (by omega)
      subst e0
      have hx := (HB.out.cell (World.block_lt_of_cell? w _ hx)).trans hx
      rw [Int.toNat_natCast, show rd l0 (i : Int) = l0[i]'hil by unfold rd; rw [Int.toNat_natCast, List.getD_eq_getElem?_getD, List.getElem?_eq_getElem hil]; rfl] at hx
      generalize hxe : l0[i]'hil = x at hx hy hz
      have HXE := Aside0.mk (show l0.take (i + 1) = l0.take i ++ [x] by rw [List.take_add_one, List.getElem?_eq_getElem hil, hxe]; rfl)
      have HY := Aside0.mk hy
      have HZ := Aside0.mk hz
      have hc0 := hk_blk_cell HK.out 0 vp rfl
      have hi12 : i < 4096 := by have := H2.out; omega
      have hne : some g ≠ vp.ownBlock := Kd.R_ne HP.out HK.out (by decide)
      have HNE := Aside0.mk hne
      have hgl := Aside0.mk (hk_new_lt HK.out)
      have HP2 : ∀ nd, Aside0 (Kd.R (Kd.int .u64) 29 (wr.drewN nd) w.heap.size (fun _ => True) vp (hk_ofs (l0.take i))) := fun nd => ⟨Kd.R_drewN HP.out nd⟩
      have hf0 := hk_blk_frozen HK.out 0
      have SX := Aside0.mk (show ∀ V, Below wr.heap.size wr V → V.cell? ⟨g, 0, none⟩ = some vp from fun V hV => hk_blk_cell ((hV.block _ (hk_new_lt HK.out)).trans HK.out) 0 vp rfl)
      have HB2 : ∀ nd, Aside0 (Below w.heap.size w (wr.drewN nd)) := fun nd => ⟨pw_below_drewN HB.out nd⟩
      have HS2 : ∀ nd, Aside0 (w.heap.size ≤ (wr.drewN nd).heap.size) := fun nd => ⟨HB.out.size⟩
      have HL2 := Aside0.mk (show ((hk_ofs (l0.take i)).length + 1) * 8 ≤ 140737488355328 by rw [hk_ofs_len, List.length_take]; omega)
      clear hxe hy hz hi hne
      go_wp2
      refine start_ (n := 12) (S := fun w' => w'.cell? ⟨g, 0, none⟩ = some vp) (ds := [11]) #[false, false, false, false, false, false, false, false, false, false, false, false] (by kernel_rfl) rfl rfl (hc0) (fun hHeld => ?_)
      refine pure_ (i := 0) (N := some 24) (v := ?_) (a' := ?_) #[true, false, false, false, false, false, false, false, false, false, false, false] rfl rfl (by kernel_rfl) (fun _ _ _ h => h) (Or.inl ⟨by rfl, ?_⟩) ?_ ?_
      rotate_left
      · intro w'
        go_simp
        with_reducible rfl
      rotate_left
      · simp only [Act.put, List.setIfInBounds_toArray, List.set_cons_zero, List.set_cons_succ, i64_w, i32_w]
        rfl
      refine pure_ (i := 1) (N := some 25) (v := ?_) (a' := ?_) #[true, true, false, false, false, false, false, false, false, false, false, false] rfl rfl (by kernel_rfl) (fun _ _ _ h => h) (Or.inl ⟨by rfl, ?_⟩) ?_ ?_
      rotate_left
      · intro w'
        go_simp
        with_reducible rfl
      rotate_left
      · simp only [Act.put, List.setIfInBounds_toArray, List.set_cons_zero, List.set_cons_succ, i64_w, i32_w]
        rfl
      refine pure_ (i := 2) (N := some 26) (v := ?_) (a' := ?_) #[true, true, true, false, false, false, false, false, false, false, false, false] rfl rfl (by kernel_rfl) (fun _ _ _ h => h) (Or.inl ⟨by rfl, ?_⟩) ?_ ?_
      rotate_left
      · intro w'
        go_simp
        with_reducible rfl
      rotate_left
      · simp only [Act.put, List.setIfInBounds_toArray, List.set_cons_zero, List.set_cons_succ, i64_w, i32_w]
        rfl
      refine pure_ (i := 3) (N := some 27) (v := ?_) (a' := ?_) #[true, true, true, true, false, false, false, false, false, false, false, false] rfl rfl (by kernel_rfl) (fun _ _ _ h => h) (Or.inl ⟨by rfl, ?_⟩) ?_ ?_
      rotate_left
      · intro w'
        go_simp
        with_reducible rfl
      rotate_left
      · simp only [Act.put, List.setIfInBounds_toArray, List.set_cons_zero, List.set_cons_succ, i64_w, i32_w]
        rfl
      refine pure_ (i := 5) (N := some 29) (v := ?_) (a' := ?_) #[true, true, true, true, false, true, false, false, false, false, false, false] rfl rfl (by kernel_rfl) (fun _ _ _ h => h) (Or.inl ⟨by rfl, ?_⟩) ?_ ?_
      rotate_left
      · intro w'
        go_simp
        with_reducible rfl
      rotate_left
      · simp only [Act.put, List.setIfInBounds_toArray, List.set_cons_zero, List.set_cons_succ, i64_w, i32_w]
        rfl
      refine take_ (i := 4) (N := some 28) (v := ?_) (a' := ?_) #[true, true, true, true, true, true, false, false, false, false, false, false] rfl rfl (by kernel_rfl) (fun _ _ _ h => h) (Or.inl ⟨by rfl, ?_⟩) hHeld ?_ ?_
      rotate_left
      · intro w' s0
        go_simp
        with_reducible rfl
      rotate_left
      · simp only [Act.put, List.setIfInBounds_toArray, List.set_cons_zero, List.set_cons_succ, i64_w, i32_w]
        rfl
      refine one_ (i := 6) (N := some 30) #[true, true, true, true, true, true, true, false, false, false, false, false] rfl rfl (by kernel_rfl) (by decide) (fun K hK => ?_)
      refine goes_ Try.func23 (by kernel_rfl) rfl #[.int .u64 x] (by rfl) rfl rfl (by simp only [List.map_toArray, List.map_cons, List.map_nil]; rfl) ?_
      with_reducible refine (gold_Of.calls x y _ HY.out).mono ?_
      rintro e w5 ⟨rfl, ⟨nd, rfl⟩⟩
      refine ⟨_, rfl, ?_⟩
      refine hK.out _ _ (hc0) (fun hHeld => ?_)
      clear hK K
      refine norm_ (a' := ?_) ?_ ?_
      rotate_left
      · show Act.put _ (some 30) _ = _
        simp only [Act.put, List.setIfInBounds_toArray, List.set_cons_zero, List.set_cons_succ, i64_w, i32_w]
        rfl
      refine one_ (i := 7) (N := some 31) #[true, true, true, true, true, true, true, true, false, false, false, false] rfl rfl (by kernel_rfl) (by decide) (fun K hK => ?_)
      refine value_ (w1 := ?_) (v := ?_) (by rfl) rfl ?_ ?_
      rotate_left 2
      · go_simp
        constructor
        · rfl
        · rfl
      refine hK.out _ _ ((SX.out _ (by repeat (first | (with_reducible first | exact Below.refl _ _ | apply below_alloc | apply pw_below_drewN | apply below_drew1) | exact Below.refl _ _)))) (fun hHeld => ?_)
      clear hK K
      refine norm_ (a' := ?_) ?_ ?_
      rotate_left
      · show Act.put _ (some 31) _ = _
        simp only [Act.put, List.setIfInBounds_toArray, List.set_cons_zero, List.set_cons_succ, i64_w, i32_w]
        rfl
      refine one_ (i := 8) (N := some 32) #[true, true, true, true, true, true, true, true, true, false, false, false] rfl rfl (by kernel_rfl) (by decide) (fun K hK => ?_)
      refine Kd.R_append_step (Kd.int .u64) w.heap.size (by rfl) _ _ 22 29 (.int .u64 0) 8 (by rfl) Try.underlying22 hk_infoTw (by rfl) (by decide) (by decide) vp (hk_ofs (l0.take i)) y [.int .u64 y] (fun _ => True) (fun _ => False) (by rfl) (by rfl) (by rfl) (fun _ h => h.elim) (fun _ _ => trivial) (HP2 _).out (HB2 _).out (HS2 _).out HL2.out ?_
      intro v1 w1 hr hb hg hat
      obtain ⟨A1, c1, rfl⟩ := Kd.R_slice hr
      have hc1 : w1.cell? ⟨g, 0, none⟩ = some vp := (hg.cell_far ⟨g, 0, none⟩ hgl.out HNE.out).trans hc0
      have hf1 : w1.frozen? ⟨g, 0, none⟩ = false := (hg.frozen_far ⟨g, 0, none⟩ hgl.out HNE.out).trans hf0
      refine hK.out _ _ (hc1) (fun hHeld => ?_)
      clear hK K
      refine norm_ (a' := ?_) ?_ ?_
      rotate_left
      · show Act.put _ (some 32) _ = _
        simp only [Act.put, List.setIfInBounds_toArray, List.set_cons_zero, List.set_cons_succ, i64_w, i32_w]
        rfl
      refine pure_ (i := 9) (N := some 33) (v := ?_) (a' := ?_) #[true, true, true, true, true, true, true, true, true, true, false, false] rfl rfl (by kernel_rfl) (fun _ _ _ h => h) (Or.inl ⟨by rfl, ?_⟩) ?_ ?_
      rotate_left
      · intro w'
        go_simp
        with_reducible rfl
      rotate_left
      · simp only [Act.put, List.setIfInBounds_toArray, List.set_cons_zero, List.set_cons_succ, i64_w, i32_w]
        rfl
      refine pure_ (i := 10) (N := some 34) (v := ?_) (a' := ?_) #[true, true, true, true, true, true, true, true, true, true, true, false] rfl rfl (by kernel_rfl) (fun _ _ _ h => h) (Or.inl ⟨by rfl, ?_⟩) ?_ ?_
      rotate_left
      · intro w'
        go_simp
        with_reducible rfl
      rotate_left
      · simp only [Act.put, List.setIfInBounds_toArray, List.set_cons_zero, List.set_cons_succ, i64_w, i32_w]
        rfl
      refine last_ (i := 11) (N := none) #[true, true, true, true, true, true, true, true, true, true, true, true] rfl rfl (by kernel_rfl) (by decide) (fun K hK => ?_)
      refine skip_ (w1 := ?_) (by rfl) rfl ?_ ?_
      rotate_left
      · go_simp
        rfl
      refine hK.out _ _ ?_
      clear hK K
      refine done_ (by kernel_rfl) ?_
      have hK1 : w1.heap[g]? = some (.cells #[vp, .slice none 0 0] 45 (0, 0)) := (hg.block g hgl.out HNE.out).trans HK.out
      have hN1 := Kd.N_far (Kd.N_after (Kd.N_drewN HV.out (1 + nd)) hg hat) (p := ⟨g, 0, none⟩) (fun k hk => hk.1) (.slice A1 (hk_ofs (l0.take i) ++ [y]).length c1)
      have hP1 := Kd.R_set hr hK1 (by decide) 0 (.slice A1 (hk_ofs (l0.take i) ++ [y]).length c1)
      have hB1 := below_set (j := 0) (v := .slice A1 (hk_ofs (l0.take i) ++ [y]).length c1) hb HGW.out
      have hK2 := blk_put hK1 0 (.slice A1 (hk_ofs (l0.take i) ++ [y]).length c1) rfl
      rw [← hk_ofs_snoc _ _ _ HY.out, ← HXE.out] at hN1 hP1 hB1 hK2
      have HLL := Aside0.mk (show (hk_ofs (l0.take i)).length + 1 = (hk_ofs (l0.take (i + 1))).length by rw [HXE.out, hk_ofs_snoc _ _ _ HY.out]; simp)
      clear HK HP HV HB HNE hgl HP2 HB2 HS2 HL2 SX hc0 hf0 hg hat hHeld hx HR hr hb hc1 hf1
      rw [HLL.out]
      clear HLL hK1
      generalize (Value.slice A1 (hk_ofs (l0.take (i + 1))).length c1) = vq at hN1 hP1 hB1 hK2 ⊢
      generalize w1.setCell ⟨g, 0, none⟩ vq = w2 at hN1 hP1 hB1 hK2 ⊢
      have HN := Aside0.mk hN1
      have HP := Aside0.mk hP1
      have HB := Aside0.mk hB1
      have HK := Aside0.mk hK2
      clear hN1 hP1 hB1 hK2
      have HGL := Aside0.mk (hk_new_lt HK.out)
      have HA1 := Aside0.mk (show ∀ k, k = w2.heap.size → (k ≠ g ∧ some k ≠ vq.ownBlock) ∧ some k ≠ u5.ownBlock from fun k hk => by
        subst hk
        exact ⟨⟨fun e => by have := HGL.out; omega, fun e => by have := Kd.R_lt HP.out _ e.symm; omega⟩, fun e => by have := Kd.N_lt HN.out _ e.symm; omega⟩)
      have HA2 := Aside0.mk (show ∀ (m : Nat) (z : Int) (k : Nat), ((w2.drewN m).alloc (.cells #[.int .u64 z, .int .u64 1] 29)).heap.size ≤ k → (k ≠ g ∧ some k ≠ vq.ownBlock) from fun m z k hk => by
        have h1 : w2.heap.size ≤ k := Nat.le_trans (below_size (below_alloc (pw_below_drewN (Below.refl w2.heap.size w2) m) _)) hk
        exact ⟨fun e => by have := HGL.out; omega, fun e => by have := Kd.R_lt HP.out _ e.symm; omega⟩)
      have HA3 := Aside0.mk (show (((l0.take i).map hk_lin).length + 1) * 24 ≤ 140737488355328 by rw [List.length_map, List.length_take]; omega)
      go_wp2_with (first | (go_at_call 24; (with_reducible refine (gold_Neg.calls x z _ HZ.out).mono ?_); rintro e w5 ⟨rfl, ⟨nd2, rfl⟩⟩) | ((with_reducible refine gate_builtin (b := .append) (xs := #[.tmp 35, .tmp 39]) rfl ?_); at_builtin; refine Kd.N_append (Kd.slice 29 (Kd.int .u64)) (w0 := w) w.heap.size rfl (.tmp 35) (.tmp 39) 46 22 (.slice none 0 0) 24 rfl Try.underlying46 hk_infoTu rfl (by decide) (by omega) u5 ((l0.take i).map hk_lin) [z, 1] [.slice (some ⟨w2.heap.size, 0, none⟩) 2 2] (fun k => k ≠ g ∧ some k ≠ vq.ownBlock) (fun k => k = w2.heap.size) rfl ?aX ?aP ?aK ?aF ?aO ?aB ?aS ?aL ?_; (case aX => (show Value.slice (some ⟨w2.heap.size + 1, 0, none⟩) 1 1 = _; simp)); (case aP => exact Kd.FK_slice_mk (l := [z, 1]) (c := 2) (Nat.le_refl _) (hk_lit_F [z, 1] (blk_new _ _) (show (2 : Nat) ≤ 9223372036854775807 by decide))); (case aK => exact HA1.out); (case aF => exact HA2.out nd2 z); (case aO => exact Kd.N_alloc (Kd.N_drewN HN.out nd2) _); (case aB => exact below_alloc (pw_below_drewN HB.out nd2) _); (case aS => exact below_size (below_alloc (pw_below_drewN HB.out nd2) _)); (case aL => exact HA3.out); intro v3 w3 hn hb hg hat))
      have hK3 : w3.heap[g]? = some (.cells #[vq, .slice none 0 0] 45 (0, 0)) := blk_grown (blk_alloc (w := w2.drewN nd2) HK.out _) hg (Kd.N_away HN.out (fun k hk => hk.1))
      have hP3 := Kd.R_grown2 (Kd.R_alloc (Kd.R_drewN HP.out nd2) (.cells #[.int .u64 z, .int .u64 1] 29)) rfl hg (fun k hk => (HN.out.1 k hk).2)
      rw [← hk_lin_snoc _ _ _ HZ.out, ← HXE.out] at hn
      have HI2 := Aside0.mk (show (i + 1) + k1 = l0.length by have := HI.out; omega)
      have hn := Aside0.mk hn
      have hb := Aside0.mk hb
      have hK3 := Aside0.mk hK3
      have hP3 := Aside0.mk hP3
      clear HA1 HA2 HA3 HN HB HK HP HXE hg hat
      go_wp2
      go_roundg k1
      case rel => exact ⟨i + 1, vq, by go_num, HI2, hK3, hP3, hn, hb⟩
      case measure => exact Nat.lt_succ_self _

/-! ### abacistref04_Same: function 14 -/
def abacistref04_Same.l0 : Nat → List Int → List Int → Int → Option (Bool)
  | 0, _, _, _ => none
  | k + 1, x0, x1, x5 => if x5 < (x0.length : Int) then (if 0 ≤ x5 then (if x5 < (x1.length : Int) then (if (rd x0 x5) = (rd x1 x5) then (abacistref04_Same.l0 k x0 x1 (wrap64 (x5 + 1))) else (some false)) else (none)) else (none)) else (some true)
def abacistref04_Same.f (k : Nat) (l0 : List Int) (l1 : List Int) : Option (Bool) := if (l0.length : Int) = (l1.length : Int) then (abacistref04_Same.l0 k l0 l1 0) else (some false)
set_option maxHeartbeats 8000000 in
set_option maxRecDepth 100000 in
theorem abacistref04_Same.calls (k : Nat) (A0 : Option Addr) (c0 : Nat) (l0 : List Int) (A1 : Option Addr) (c1 : Nat) (l1 : List Int) (r : Bool) (w : World) (hr0 : Kd.C (Kd.int .u64) w A0 l0.length l0) (hc0 : l0.length ≤ c0) (hr1 : Kd.C (Kd.int .u64) w A1 l1.length l1) (hc1 : l1.length ≤ c1) (h : abacistref04_Same.f k l0 l1 = some r) :
    Calls Try.prog 14 #[.slice A0 l0.length c0, .slice A1 l1.length c1] w fun e w' => e = .returned (.bool r) ∧ Drawn0 w w' := by
  have HR0 := Aside0.mk hr0
  have HC0 := Aside0.mk hc0
  clear hr0 hc0
  have HR1 := Aside0.mk hr1
  have HC1 := Aside0.mk hc1
  clear hr1 hc1
  have H : (if (l0.length : Int) = (l1.length : Int) then (abacistref04_Same.l0 k l0 l1 0) else (some false)) = some r := h
  clear h
  by_cases c3 : (l0.length : Int) = (l1.length : Int)
  · rw [if_pos c3] at H
    have c3b0 : ((l0.length : Int) == (l1.length : Int)) = true := beq_iff_eq.mpr c3
    have c3b1 : ((l0.length : Int) != (l1.length : Int)) = false := bne_eq_false_iff_eq.mpr c3
    have c3b2 : (l0.length == l1.length) = true := by first | simpa using c3 | (simp at c3 ⊢; omega)
    clear c3
    have H' := Aside0.mk H
    clear H
    go_enter Try.func14, Try.ntmps14
    go_wp2
    repeat (go_quiet (fail); try go_wp2)
    go_loopg [5] k (fun kq v5 w' => ∃ (x5_1 : Int), v5 = .int .i64 x5_1 ∧ Aside0 (abacistref04_Same.l0 kq l0 l1 x5_1 = some r) ∧ Aside0 (kq ≤ k) ∧ Drawn0 w w')
    case atStart => exact ⟨(0), (by first | rfl | (simp; done) | (simp [*]; done)), H', ⟨Nat.le_refl _⟩, by repeat (first | exact Drawn0.refl _ | apply Drawn0.step)⟩
    case round =>
      clear H'
      try clear c1
      try clear p2
      try clear c3
      try clear c3b0
      try clear c3b1
      try clear c3b2
      obtain ⟨x5_1, rfl, HA, HK1, ⟨m1, rfl⟩⟩ := hrel
      cases gk with
      | zero => exact absurd HA.out (by simp [abacistref04_Same.l0])
      | succ k1 =>
        have H := HA.out
        clear HA
        simp only [abacistref04_Same.l0] at H
        by_cases c4 : x5_1 < (l0.length : Int)
        · rw [if_pos c4] at H
          have c4b0 : decide (x5_1 < (l0.length : Int)) = true := decide_eq_true c4
          clear c4
          by_cases c5 : 0 ≤ x5_1
          · rw [if_pos c5] at H
            have c5b0 : decide (0 ≤ x5_1) = true := decide_eq_true c5
            clear c5
            by_cases c6 : x5_1 < (l1.length : Int)
            · rw [if_pos c6] at H
              have c6b0 : decide (x5_1 < (l1.length : Int)) = true := decide_eq_true c6
              clear c6
              by_cases c7 : (rd l0 x5_1) = (rd l1 x5_1)
              · rw [if_pos c7] at H
                have c7b0 : ((rd l0 x5_1) == (rd l1 x5_1)) = true := beq_iff_eq.mpr c7
                have c7b1 : ((rd l0 x5_1) != (rd l1 x5_1)) = false := bne_eq_false_iff_eq.mpr c7
                clear c7
                have H' := Aside0.mk H
                clear H
                have p239 : 0 ≤ (x5_1 : Int) := of_decide_eq_true (by first | (with_reducible assumption) | assumption)
                have q239 : x5_1 < (l0.length : Int) := of_decide_eq_true (by first | (with_reducible assumption) | assumption)
                obtain ⟨ad239, e239, hx239_0⟩ := Kd.at_int HR0.out x5_1 p239 q239
                cases e239
                replace p239 := eq_true p239
                replace q239 := eq_true q239
                have p240 : 0 ≤ (x5_1 : Int) := of_decide_eq_true (by first | (with_reducible assumption) | assumption)
                have q240 : x5_1 < (l1.length : Int) := of_decide_eq_true (by first | (with_reducible assumption) | assumption)
                obtain ⟨ad240, e240, hx240_0⟩ := Kd.at_int HR1.out x5_1 p240 q240
                cases e240
                replace p240 := eq_true p240
                replace q240 := eq_true q240
                go_wp2
                repeat (go_quiet (fail); try go_wp2)
                (first | go_roundg k1 | (simp only [add_plain] at *; go_roundg k1))
                case measure => have := HK1.out; omega
                case rel => exact ⟨(wrap64 (x5_1 + 1)), (by first | rfl | (simp; done) | (simp [*]; done)), H', ⟨by have := HK1.out; omega⟩, by repeat (first | exact Drawn0.refl _ | apply Drawn0.step)⟩
              · rw [if_neg c7] at H
                have c7b0 : ((rd l0 x5_1) == (rd l1 x5_1)) = false := beq_eq_false_iff_ne.mpr c7
                have c7b1 : ((rd l0 x5_1) != (rd l1 x5_1)) = true := bne_iff_ne.mpr c7
                obtain rfl := Option.some.inj H
                have p239 : 0 ≤ (x5_1 : Int) := of_decide_eq_true (by first | (with_reducible assumption) | assumption)
                have q239 : x5_1 < (l0.length : Int) := of_decide_eq_true (by first | (with_reducible assumption) | assumption)
                obtain ⟨ad239, e239, hx239_0⟩ := Kd.at_int HR0.out x5_1 p239 q239
                cases e239
                replace p239 := eq_true p239
                replace q239 := eq_true q239
                have p240 : 0 ≤ (x5_1 : Int) := of_decide_eq_true (by first | (with_reducible assumption) | assumption)
                have q240 : x5_1 < (l1.length : Int) := of_decide_eq_true (by first | (with_reducible assumption) | assumption)
                obtain ⟨ad240, e240, hx240_0⟩ := Kd.at_int HR1.out x5_1 p240 q240
                cases e240
                replace p240 := eq_true p240
                replace q240 := eq_true q240
                go_wp2
                repeat (go_quiet (fail); try go_wp2)
                go_ret
                exact ⟨by first | rfl | (simp; done) | (simp [*]; done), by repeat (first | exact Drawn0.refl _ | apply Drawn0.step)⟩
            · rw [if_neg c6] at H
              exact absurd H (by simp)
          · rw [if_neg c5] at H
            exact absurd H (by simp)
        · rw [if_neg c4] at H
          have c4b0 : decide (x5_1 < (l0.length : Int)) = false := decide_eq_false c4
          clear c4
          obtain rfl := Option.some.inj H
          go_wp2
          repeat (go_quiet (fail); try go_wp2)
          go_ret
          exact ⟨by first | rfl | (simp; done) | (simp [*]; done), by repeat (first | exact Drawn0.refl _ | apply Drawn0.step)⟩
  · rw [if_neg c3] at H
    have c3b0 : ((l0.length : Int) == (l1.length : Int)) = false := beq_eq_false_iff_ne.mpr c3
    have c3b1 : ((l0.length : Int) != (l1.length : Int)) = true := bne_iff_ne.mpr c3
    have c3b2 : (l0.length == l1.length) = false := by first | simpa using c3 | (simp at c3 ⊢; omega)
    obtain rfl := Option.some.inj H
    go_enter Try.func14, Try.ntmps14
    go_wp2
    repeat (go_quiet (fail); try go_wp2)
    go_ret
    exact ⟨by first | rfl | (simp; done) | (simp [*]; done), by repeat (first | exact Drawn0.refl _ | apply Drawn0.step)⟩

/-- A state of type 45 at block g of W; what its slices lead to came in by w0. -/
def IsS45 (w0 W : World) (g : Nat) (f0 : List Int) (f1 : List (List (List Int))) : Prop := ∃ A0 c0, ∃ A1 c1, W.heap[g]? = some (.cells #[.slice A0 f0.length c0, .slice A1 f1.length c1] 45 (0, 0)) ∧ True ∧ Kd.C (Kd.int .u64) w0 A0 f0.length f0 ∧ Kd.C (Kd.slice 22 (Kd.slice 29 (Kd.int .u64))) w0 A1 f1.length f1
theorem IsS45.grown {w0 W : World} {g : Nat} {f0 : List Int} {f1 : List (List (List Int))} {W1 : World} {row : Option Nat} (h : IsS45 w0 W g f0 f1) (hw : W.grownBy W1 row) (hne : some g ≠ row) : IsS45 w0 W1 g f0 f1 := by
  obtain ⟨A0, c0, A1, c1, hb, hg, hr0, hr1⟩ := h
  exact ⟨A0, c0, A1, c1, blk_grown hb hw hne, hg, hr0, hr1⟩
theorem IsS45.kept {w0 W : World} {g : Nat} {f0 : List Int} {f1 : List (List (List Int))} {W1 : World} {S : Nat → Prop} (h : IsS45 w0 W g f0 f1) (hk : Kept W W1 S) (hne : ¬ S g) : IsS45 w0 W1 g f0 f1 := by
  obtain ⟨A0, c0, A1, c1, hb, hg, hr0, hr1⟩ := h
  exact ⟨A0, c0, A1, c1, blk_kept hb hk hne, hg, hr0, hr1⟩
theorem IsS45.below {w0 W : World} {g : Nat} {f0 : List Int} {f1 : List (List (List Int))} {W1 : World} (h : IsS45 w0 W g f0 f1) (hw : Below W.heap.size W W1) : IsS45 w0 W1 g f0 f1 := h.grown (grown_of_below hw none) (by simp)
theorem IsS45.alloc {w0 W : World} {g : Nat} {f0 : List Int} {f1 : List (List (List Int))} (h : IsS45 w0 W g f0 f1) (o : Obj) : IsS45 w0 (W.alloc o) g f0 f1 := h.below (below_alloc (Below.refl _ _) o)
theorem IsS45.drewN {w0 W : World} {g : Nat} {f0 : List Int} {f1 : List (List (List Int))} (h : IsS45 w0 W g f0 f1) (m : Nat) : IsS45 w0 (W.drewN m) g f0 f1 := h
theorem IsS45.drew {w0 W : World} {g : Nat} {f0 : List Int} {f1 : List (List (List Int))} (h : IsS45 w0 W g f0 f1) : IsS45 w0 W.drew g f0 f1 := h
theorem IsS45.own_ne {w0 W : World} {g : Nat} {f0 : List Int} {f1 : List (List (List Int))} {α : Type} {d : Kd α} {e : Nat} {base : Nat} {ok : Nat → Prop} {v : Value} {xs : List α} (h : IsS45 w0 W g f0 f1) (ho : d.R e W base ok v xs) (ht : e ≠ 45) : some g ≠ v.ownBlock := by
  obtain ⟨A0, c0, A1, c1, hb, hg, hr0, hr1⟩ := h
  exact Kd.R_ne ho hb ht
theorem cellS45_0 {W : World} {g : Nat} {A0 : Option Addr} {c0 : Nat} {A1 : Option Addr} {c1 : Nat} {f0 : List Int} {f1 : List (List (List Int))} (h : W.heap[g]? = some (.cells #[.slice A0 f0.length c0, .slice A1 f1.length c1] 45 (0, 0))) : W.cell? ⟨g, 0, none⟩ = some (.slice A0 f0.length c0) := (blk_cell h 0).trans rfl
theorem cellS45_1 {W : World} {g : Nat} {A0 : Option Addr} {c0 : Nat} {A1 : Option Addr} {c1 : Nat} {f0 : List Int} {f1 : List (List (List Int))} (h : W.heap[g]? = some (.cells #[.slice A0 f0.length c0, .slice A1 f1.length c1] 45 (0, 0))) : W.cell? ⟨g, 1, none⟩ = some (.slice A1 f1.length c1) := (blk_cell h 1).trans rfl
/-! ### tree_Tree_Node: function 11 -/
def tree_Tree_Node.f (s0_0 : List Int) (s0_1 : List (List (List Int))) (a1 : Int) (a2 : Int) : Option (List Int × Int) := if a1 < 0 then (some (([] : List Int), 2)) else (if a1 ≥ (s0_1.length : Int) then (some (([] : List Int), 2)) else (if a2 < 0 then (some (([] : List Int), 2)) else (if 0 ≤ a1 then (if a1 < (s0_1.length : Int) then (if a2 ≥ ((rd_L2 s0_1 a1).length : Int) then (some (([] : List Int), 2)) else ((some (([] : List Int) : List Int)).bind fun y242 => (if 0 ≤ a2 then (if a2 < ((rd_L2 s0_1 a1).length : Int) then (if y242.length + (rd_L1 (rd_L2 s0_1 a1) a2).length < 17592186044416 then (some ((y242 ++ (rd_L1 (rd_L2 s0_1 a1) a2)), 0)) else (none)) else (none)) else (none)))) else (none)) else (none))))
set_option maxHeartbeats 80000000 in
set_option maxRecDepth 100000 in
theorem tree_Tree_Node.calls (g : Nat) (s0_0 : List Int) (s0_1 : List (List (List Int))) (a1 : Int) (a2 : Int) (r1 : List Int) (r2 : Int) (w0 w : World) (hI : IsS45 w0 w g s0_0 s0_1) (hB : Below w0.heap.size w0 w) (h : tree_Tree_Node.f s0_0 s0_1 a1 a2 = some (r1, r2)) :
    Calls Try.prog 11 #[.pointer (some ⟨g, 0, none⟩), .int .i64 a1, .int .i64 a2] w fun e w' => ∃ v0_ : Value, e = .returned (.tuple #[v0_, .int .i64 r2]) ∧ Kd.R (Kd.int .u64) 29 w' w.heap.size (fun _ => True) v0_ r1 ∧ IsS45 w0 w' g s0_0 s0_1 ∧ Below w0.heap.size w0 w' ∧ KeepBut w w' g none := by
  have HI0 := Aside0.mk hI
  have HK := Aside0.mk (KeepBut.refl w g none)
  have HL := Aside0.mk hB.size
  clear hI
  have HW0 := Aside0.mk hB.size
  have HB := Aside0.mk hB
  clear hB
  have H : (if a1 < 0 then (some (([] : List Int), 2)) else (if a1 ≥ (s0_1.length : Int) then (some (([] : List Int), 2)) else (if a2 < 0 then (some (([] : List Int), 2)) else (if 0 ≤ a1 then (if a1 < (s0_1.length : Int) then (if a2 ≥ ((rd_L2 s0_1 a1).length : Int) then (some (([] : List Int), 2)) else ((some (([] : List Int) : List Int)).bind fun y242 => (if 0 ≤ a2 then (if a2 < ((rd_L2 s0_1 a1).length : Int) then (if y242.length + (rd_L1 (rd_L2 s0_1 a1) a2).length < 17592186044416 then (some ((y242 ++ (rd_L1 (rd_L2 s0_1 a1) a2)), 0)) else (none)) else (none)) else (none)))) else (none)) else (none))))) = some (r1, r2) := h
  clear h
  by_cases c4 : a1 < 0
  · rw [if_pos c4] at H
    have c4b0 : decide (a1 < 0) = true := decide_eq_true c4
    clear c4
    simp only [Option.some.injEq, Prod.mk.injEq] at H
    obtain ⟨rfl, rfl⟩ := H
    go_enter Try.func11, Try.ntmps11
    go_wp2
    go_ret2
    exact ⟨_, by first | rfl | (simp [errW_none, errW_some] <;> rfl) | (simp [*, errW_none, errW_some] <;> rfl), by first | exact Kd.R_nil _ _ _ _ _ | exact Kd.N_nil _ _ _ _ _ | exact Kd.V_nil _ _ _ _ _ | exact Kd.Q_nil _ _ _ _ _ | exact Kd.S_nil _ _ _ _ _, by repeat (first | (with_reducible first | exact HI0.out | apply IsS45.alloc | apply IsS45.drewN | apply IsS45.drew) | exact HI0.out), by repeat (first | (with_reducible first | exact HB.out | apply below_alloc | apply pw_below_drewN | apply below_drew1) | exact HB.out), by repeat (first | (with_reducible first | exact HK.out | apply KeepBut.set_ | apply keep_drewN | apply keep_drew | apply keep_alloc) | exact HK.out)⟩
  · rw [if_neg c4] at H
    have c4b0 : decide (a1 < 0) = false := decide_eq_false c4
    clear c4
    by_cases c5 : a1 ≥ (s0_1.length : Int)
    · rw [if_pos c5] at H
      have c5b0 : decide ((s0_1.length : Int) ≤ a1) = true := decide_eq_true c5
      clear c5
      simp only [Option.some.injEq, Prod.mk.injEq] at H
      obtain ⟨rfl, rfl⟩ := H
      obtain ⟨ASz6_0, cSz6_0, ASz6_1, cSz6_1, HGz6, hgz6, HSz6_0, HSz6_1⟩ := HI0.out
      have hcz6_0 := cellS45_0 HGz6
      have hcz6_1 := cellS45_1 HGz6
      clear HGz6 hgz6
      go_enter Try.func11, Try.ntmps11
      go_wp2
      go_ret2
      exact ⟨_, by first | rfl | (simp [errW_none, errW_some] <;> rfl) | (simp [*, errW_none, errW_some] <;> rfl), by first | exact Kd.R_nil _ _ _ _ _ | exact Kd.N_nil _ _ _ _ _ | exact Kd.V_nil _ _ _ _ _ | exact Kd.Q_nil _ _ _ _ _ | exact Kd.S_nil _ _ _ _ _, by repeat (first | (with_reducible first | exact HI0.out | apply IsS45.alloc | apply IsS45.drewN | apply IsS45.drew) | exact HI0.out), by repeat (first | (with_reducible first | exact HB.out | apply below_alloc | apply pw_below_drewN | apply below_drew1) | exact HB.out), by repeat (first | (with_reducible first | exact HK.out | apply KeepBut.set_ | apply keep_drewN | apply keep_drew | apply keep_alloc) | exact HK.out)⟩
    · rw [if_neg c5] at H
      have c5b0 : decide ((s0_1.length : Int) ≤ a1) = false := decide_eq_false c5
      clear c5
      by_cases c7 : a2 < 0
      · rw [if_pos c7] at H
        have c7b0 : decide (a2 < 0) = true := decide_eq_true c7
        clear c7
        simp only [Option.some.injEq, Prod.mk.injEq] at H
        obtain ⟨rfl, rfl⟩ := H
        obtain ⟨ASz8_0, cSz8_0, ASz8_1, cSz8_1, HGz8, hgz8, HSz8_0, HSz8_1⟩ := HI0.out
        have hcz8_0 := cellS45_0 HGz8
        have hcz8_1 := cellS45_1 HGz8
        clear HGz8 hgz8
        go_enter Try.func11, Try.ntmps11
        go_wp2
        go_ret2
        exact ⟨_, by first | rfl | (simp [errW_none, errW_some] <;> rfl) | (simp [*, errW_none, errW_some] <;> rfl), by first | exact Kd.R_nil _ _ _ _ _ | exact Kd.N_nil _ _ _ _ _ | exact Kd.V_nil _ _ _ _ _ | exact Kd.Q_nil _ _ _ _ _ | exact Kd.S_nil _ _ _ _ _, by repeat (first | (with_reducible first | exact HI0.out | apply IsS45.alloc | apply IsS45.drewN | apply IsS45.drew) | exact HI0.out), by repeat (first | (with_reducible first | exact HB.out | apply below_alloc | apply pw_below_drewN | apply below_drew1) | exact HB.out), by repeat (first | (with_reducible first | exact HK.out | apply KeepBut.set_ | apply keep_drewN | apply keep_drew | apply keep_alloc) | exact HK.out)⟩
      · rw [if_neg c7] at H
        have c7b0 : decide (a2 < 0) = false := decide_eq_false c7
        clear c7
        by_cases c9 : 0 ≤ a1
        · rw [if_pos c9] at H
          have c9b0 : decide (0 ≤ a1) = true := decide_eq_true c9
          clear c9
          by_cases c10 : a1 < (s0_1.length : Int)
          · rw [if_pos c10] at H
            have c10b0 : decide (a1 < (s0_1.length : Int)) = true := decide_eq_true c10
            clear c10
            by_cases c11 : a2 ≥ ((rd_L2 s0_1 a1).length : Int)
            · rw [if_pos c11] at H
              have c11b0 : decide (((rd_L2 s0_1 a1).length : Int) ≤ a2) = true := decide_eq_true c11
              clear c11
              simp only [Option.some.injEq, Prod.mk.injEq] at H
              obtain ⟨rfl, rfl⟩ := H
              obtain ⟨ASz12_0, cSz12_0, ASz12_1, cSz12_1, HGz12, hgz12, HSz12_0, HSz12_1⟩ := HI0.out
              have hcz12_0 := cellS45_0 HGz12
              have hcz12_1 := cellS45_1 HGz12
              clear HGz12 hgz12
              have p241 : 0 ≤ (a1 : Int) := of_decide_eq_true (by first | (with_reducible assumption) | assumption)
              have q241 : a1 < (s0_1.length : Int) := of_decide_eq_true (by first | (with_reducible assumption) | assumption)
              obtain ⟨ad241, A241_0, c241_0, e241, hx241_0, hl241_0, hi241_0⟩ := at_L2 HSz12_1 a1 p241 q241
              cases e241
              replace hx241_0 := pw_cell_below HB.out hx241_0
              have HR241_0 := Aside0.mk hi241_0
              have HC241_0 := Aside0.mk hl241_0
              clear hi241_0 hl241_0
              replace p241 := eq_true p241
              replace q241 := eq_true q241
              go_enter Try.func11, Try.ntmps11
              go_wp2
              go_ret2
              exact ⟨_, by first | rfl | (simp [errW_none, errW_some] <;> rfl) | (simp [*, errW_none, errW_some] <;> rfl), by first | exact Kd.R_nil _ _ _ _ _ | exact Kd.N_nil _ _ _ _ _ | exact Kd.V_nil _ _ _ _ _ | exact Kd.Q_nil _ _ _ _ _ | exact Kd.S_nil _ _ _ _ _, by repeat (first | (with_reducible first | exact HI0.out | apply IsS45.alloc | apply IsS45.drewN | apply IsS45.drew) | exact HI0.out), by repeat (first | (with_reducible first | exact HB.out | apply below_alloc | apply pw_below_drewN | apply below_drew1) | exact HB.out), by repeat (first | (with_reducible first | exact HK.out | apply KeepBut.set_ | apply keep_drewN | apply keep_drew | apply keep_alloc) | exact HK.out)⟩
            · rw [if_neg c11] at H
              have c11b0 : decide (((rd_L2 s0_1 a1).length : Int) ≤ a2) = false := decide_eq_false c11
              clear c11
              obtain ⟨y242, hy242⟩ : ∃ y_ : List Int, y_ = (([] : List Int)) := ⟨_, rfl⟩
              replace H : (if 0 ≤ a2 then (if a2 < ((rd_L2 s0_1 a1).length : Int) then (if y242.length + (rd_L1 (rd_L2 s0_1 a1) a2).length < 17592186044416 then (some ((y242 ++ (rd_L1 (rd_L2 s0_1 a1) a2)), 0)) else (none)) else (none)) else (none)) = some (r1, r2) := by first | (rw [hy242]; with_reducible exact H) | (have H2_ := (Option.bind_some _ _).symm.trans H; rw [hy242]; with_reducible exact H2_) | (have H2_ := (Option.bind_some _ _).symm.trans H; with_reducible exact H2_) | with_reducible exact H | (rw [hy242]; exact H) | exact H
              have Ny242 := Aside0.mk hy242
              clear hy242
              by_cases c13 : 0 ≤ a2
              · rw [if_pos c13] at H
                have c13b0 : decide (0 ≤ a2) = true := decide_eq_true c13
                clear c13
                by_cases c14 : a2 < ((rd_L2 s0_1 a1).length : Int)
                · rw [if_pos c14] at H
                  have c14b0 : decide (a2 < ((rd_L2 s0_1 a1).length : Int)) = true := decide_eq_true c14
                  clear c14
                  by_cases c15 : y242.length + (rd_L1 (rd_L2 s0_1 a1) a2).length < 17592186044416
                  · rw [if_pos c15] at H
                    have LMc15 := Aside0.mk c15
                    clear c15
                    obtain ⟨y247, hy247⟩ : ∃ y_ : List Int, y_ = (y242 ++ (rd_L1 (rd_L2 s0_1 a1) a2)) := ⟨_, rfl⟩
                    replace H : (some (y247, 0)) = some (r1, r2) := by first | (rw [hy247]; with_reducible exact H) | (have H2_ := (Option.bind_some _ _).symm.trans H; rw [hy247]; with_reducible exact H2_) | (have H2_ := (Option.bind_some _ _).symm.trans H; with_reducible exact H2_) | with_reducible exact H | (rw [hy247]; exact H) | exact H
                    have Ny247 := Aside0.mk hy247
                    clear hy247
                    simp only [Option.some.injEq, Prod.mk.injEq] at H
                    obtain ⟨rfl, rfl⟩ := H
                    obtain ⟨ASz16_0, cSz16_0, ASz16_1, cSz16_1, HGz16, hgz16, HSz16_0, HSz16_1⟩ := HI0.out
                    have hcz16_0 := cellS45_0 HGz16
                    have hcz16_1 := cellS45_1 HGz16
                    clear HGz16 hgz16
                    have p241 : 0 ≤ (a1 : Int) := of_decide_eq_true (by first | (with_reducible assumption) | assumption)
                    have q241 : a1 < (s0_1.length : Int) := of_decide_eq_true (by first | (with_reducible assumption) | assumption)
                    obtain ⟨ad241, A241_0, c241_0, e241, hx241_0, hl241_0, hi241_0⟩ := at_L2 HSz16_1 a1 p241 q241
                    cases e241
                    replace hx241_0 := pw_cell_below HB.out hx241_0
                    have HR241_0 := Aside0.mk hi241_0
                    have HC241_0 := Aside0.mk hl241_0
                    clear hi241_0 hl241_0
                    replace p241 := eq_true p241
                    replace q241 := eq_true q241
                    go_enter Try.func11, Try.ntmps11
                    go_wp2_with (first | ((with_reducible refine gate_dst (N := 35) rfl ?_); (try (refine gate_guard (by rfl) ?_; dsimp only)); refine Kd.R_lit (Kd.int .u64) _ 29 ?hg (N := 35) ?hd (xs := ([] : List Int)) (inner := []) (ok := fun _ => True) (okp := fun _ => True) ?hr ?hp (fun _ hk => hk) trivial (Below.refl _ _) (Nat.le_refl _) (by simp) ?_; (case hd => rfl); (case hg => rfl); (case hr => first | (go_simp; done) | (go_simp; rfl)); (case hp => exact (Reps.none _ _)); intro v243 w17 ho18 hb hg_ hnew_; clear hg_ hnew_; (first | rw [← Ny242.out] at ho18 | (simp only [Int.reduceToNat] at ho18; rw [← Ny242.out] at ho18)); have n0_ := Aside0.mk (Kd.R_lower ho18 (keep_size (w := w) (g := g) (row := none) (by repeat (first | (with_reducible first | exact HK.out | apply KeepBut.set_ | apply keep_drewN | apply keep_drew | apply keep_alloc) | exact HK.out)))); have n1_ := Aside0.mk (IsS45.below (by repeat (first | (with_reducible first | exact HI0.out | apply IsS45.alloc | apply IsS45.drewN | apply IsS45.drew) | exact HI0.out)) hb); (try (have n2_ := Aside0.mk (Kd.C_below (by repeat (first | (with_reducible exact HR241_0.out) | (with_reducible refine Kd.C_alloc ?_ _) | (with_reducible refine Kd.C_drewN ?_ _) | (with_reducible refine Kd.C_drew ?_) | exact HR241_0.out)) hb))); have n3_ := Aside0.mk (KeepBut.trans (by repeat (first | (with_reducible first | exact HK.out | apply KeepBut.set_ | apply keep_drewN | apply keep_drew | apply keep_alloc) | exact HK.out)) (KeepBut.of_below hb g none) (.inl rfl)); have n4_ := Aside0.mk (below_step (by repeat (first | (with_reducible first | exact HB.out | apply below_alloc | apply pw_below_drewN | apply below_drew1) | exact HB.out)) hb); clear HI0; clear HR241_0; clear HK; clear HB; have HO244 := n0_; have HI0 := n1_; (try (have HR241_0 := n2_)); have HK := n3_; have HB := n4_; (try clear n0_ n1_ n2_ n3_ n4_); clear hb ho18; obtain ⟨ASz19_0, cSz19_0, ASz19_1, cSz19_1, HGz19, hgz19, HSz19_0, HSz19_1⟩ := HI0.out; have hcz19_0 := cellS45_0 HGz19; have hcz19_1 := cellS45_1 HGz19; clear HGz19 hgz19; have p245 : 0 ≤ (a1 : Int) := of_decide_eq_true (by first | (with_reducible assumption) | assumption); have q245 : a1 < (s0_1.length : Int) := of_decide_eq_true (by first | (with_reducible assumption) | assumption); obtain ⟨ad245, A245_0, c245_0, e245, hx245_0, hl245_0, hi245_0⟩ := at_L2 HSz19_1 a1 p245 q245; cases e245; replace hx245_0 := pw_cell_below HB.out hx245_0; have HR245_0 := Aside0.mk hi245_0; have HC245_0 := Aside0.mk hl245_0; clear hi245_0 hl245_0; replace p245 := eq_true p245; replace q245 := eq_true q245; have p246 : 0 ≤ (a2 : Int) := of_decide_eq_true (by first | (with_reducible assumption) | assumption); have q246 : a2 < ((rd_L2 s0_1 a1).length : Int) := of_decide_eq_true (by first | (with_reducible assumption) | assumption); obtain ⟨ad246, A246_0, c246_0, e246, hx246_0, hl246_0, hi246_0⟩ := at_L1 HR245_0.out a2 p246 q246; cases e246; replace hx246_0 := pw_cell_below HB.out hx246_0; have HR246_0 := Aside0.mk hi246_0; have HC246_0 := Aside0.mk hl246_0; clear hi246_0 hl246_0; replace p246 := eq_true p246; replace q246 := eq_true q246) | ((with_reducible refine gate_builtin (b := .append) (xs := #[.tmp 35, .tmp 45]) rfl ?_); (try (refine gate_guard (by rfl) ?_; dsimp only)); at_builtin; refine Kd.R_append_rows (Kd.int .u64) w.heap.size rfl (.tmp 35) (.tmp 45) 22 29 (.int .u64 0) 8 rfl Try.underlying22 info29 rfl (by decide) (by omega) v243 y242 (rd_L1 (rd_L2 s0_1 a1) a2) _ _ _ (fun _ => True) (fun _ => False) rfl rfl ?aO ?aR (fun _ _ h => h) (fun _ h => h.elim) ?aF (Below.refl _ _) ?aS ?aL ?_; (case aR => exact Kd.C_below HR246_0.out (by repeat (first | (with_reducible first | exact HB.out | apply below_alloc | apply pw_below_drewN | apply below_drew1) | exact HB.out))); (case aF => exact (fun _ _ => trivial)); (case aO => exact (by (with_reducible repeat (first | apply Kd.R_alloc | apply Kd.R_drewN | apply Kd.R_drew)); exact HO244.out)); (case aS => exact (keep_size (w := w) (g := g) (row := none) (by repeat (first | (with_reducible first | exact HK.out | apply KeepBut.set_ | apply keep_drewN | apply keep_drew | apply keep_alloc) | exact HK.out)))); (case aL => have := LMc15.out; omega); intro v248 w20 ho hb hg hat; rw [← Ny247.out] at ho; have n0_ := Aside0.mk (IsS45.grown (by repeat (first | (with_reducible first | exact HI0.out | apply IsS45.alloc | apply IsS45.drewN | apply IsS45.drew) | exact HI0.out)) hg (IsS45.own_ne HI0.out HO244.out (by decide))); have n1_ := Aside0.mk (below_weaken (by repeat (first | (with_reducible first | exact HB.out | apply below_alloc | apply pw_below_drewN | apply below_drew1) | exact HB.out)) HL.out hb); have n2_ := Aside0.mk (KeepBut.trans (by repeat (first | (with_reducible first | exact HK.out | apply KeepBut.set_ | apply keep_drewN | apply keep_drew | apply keep_alloc) | exact HK.out)) (KeepBut.of_grown hg g) (Kd.R_base2 HO244.out)); have n3_ := Aside0.mk (ho); clear HI0; clear HB; clear HK; clear HO244; have HI0 := n0_; have HB := n1_; have HK := n2_; have HO249 := n3_; clear n0_ n1_ n2_ n3_; clear ho hb hg hat))
                    go_ret2
                    exact ⟨_, by first | rfl | (simp [errW_none, errW_some] <;> rfl) | (simp [*, errW_none, errW_some] <;> rfl), by (with_reducible repeat (first | apply Kd.R_alloc | apply Kd.R_drewN | apply Kd.R_drew)); exact HO249.out, by repeat (first | (with_reducible first | exact HI0.out | apply IsS45.alloc | apply IsS45.drewN | apply IsS45.drew) | exact HI0.out), by repeat (first | (with_reducible first | exact HB.out | apply below_alloc | apply pw_below_drewN | apply below_drew1) | exact HB.out), by repeat (first | (with_reducible first | exact HK.out | apply KeepBut.set_ | apply keep_drewN | apply keep_drew | apply keep_alloc) | exact HK.out)⟩
                  · rw [if_neg c15] at H
                    exact absurd H (by simp)
                · rw [if_neg c14] at H
                  exact absurd H (by simp)
              · rw [if_neg c13] at H
                exact absurd H (by simp)
          · rw [if_neg c10] at H
            exact absurd H (by simp)
        · rw [if_neg c9] at H
          exact absurd H (by simp)

/-! ### tree_Tree_Top: function 15 -/
def tree_Tree_Top.f (s0_0 : List Int) (s0_1 : List (List (List Int))) : Option (List Int) := (tree_Tree_Node.f s0_0 s0_1 (wrap64 ((s0_1.length : Int) - 1)) 0).bind fun bt250 => (some bt250.1)
set_option maxHeartbeats 8000000 in
set_option maxRecDepth 100000 in
theorem tree_Tree_Top.calls (g : Nat) (s0_0 : List Int) (s0_1 : List (List (List Int))) (r : List Int) (w0 w : World) (hI : IsS45 w0 w g s0_0 s0_1) (hB : Below w0.heap.size w0 w) (h : tree_Tree_Top.f s0_0 s0_1 = some r) :
    Calls Try.prog 15 #[.pointer (some ⟨g, 0, none⟩)] w fun e w' => ∃ v0_ : Value, e = .returned (v0_) ∧ Kd.R (Kd.int .u64) 29 w' w.heap.size (fun _ => True) v0_ r ∧ IsS45 w0 w' g s0_0 s0_1 ∧ Below w0.heap.size w0 w' ∧ KeepBut w w' g none := by
  have HI0 := Aside0.mk hI
  have HK := Aside0.mk (KeepBut.refl w g none)
  have HL := Aside0.mk hB.size
  clear hI
  have HW0 := Aside0.mk hB.size
  have HB := Aside0.mk hB
  clear hB
  have H : ((tree_Tree_Node.f s0_0 s0_1 (wrap64 ((s0_1.length : Int) - 1)) 0).bind fun bt250 => (some bt250.1)) = some r := h
  clear h
  replace H := Option.bind_eq_some_iff.mp H
  obtain ⟨⟨t250, t253⟩, A20, H⟩ := H
  replace H : (some t250) = some r := H
  have A2 := Aside0.mk A20
  clear A20
  obtain rfl := Option.some.inj H
  obtain ⟨ASz3_0, cSz3_0, ASz3_1, cSz3_1, HGz3, hgz3, HSz3_0, HSz3_1⟩ := HI0.out
  have hcz3_0 := cellS45_0 HGz3
  have hcz3_1 := cellS45_1 HGz3
  clear HGz3 hgz3
  go_enter Try.func15, Try.ntmps15
  go_wp2_with (first | ((with_reducible refine gate_callee (f := 11) rfl ?_); refine goesL_ (some 13) rfl rfl Try.func11 (by kernel_rfl) rfl #[.pointer (some ⟨g, 0, none⟩), .int .i64 (wrap64 ((s0_1.length : Int) - 1)), .int .i64 0] rfl (by (try simp only [List.map_toArray, List.map_cons, List.map_nil]); first | done | rfl | (simp only [List.length_drop, List.length_take]; rfl)) ?_; (with_reducible refine (tree_Tree_Node.calls g s0_0 s0_1 (wrap64 ((s0_1.length : Int) - 1)) 0 t250 t253 w0 _ ?side1 ?side2 A2.out).mono ?_); (case side1 => repeat (first | (with_reducible first | exact HI0.out | apply IsS45.alloc | apply IsS45.drewN | apply IsS45.drew) | exact HI0.out)); (case side2 => repeat (first | (with_reducible first | exact HB.out | apply below_alloc | apply pw_below_drewN | apply below_drew1) | exact HB.out)); rintro e w4 ⟨v251, rfl, ho0, hi, hb, hk⟩; refine ⟨_, rfl, ?_⟩; have n0_ := Aside0.mk (Kd.R_lower ho0 (keep_size (w := w) (g := g) (row := none) (by repeat (first | (with_reducible first | exact HK.out | apply KeepBut.set_ | apply keep_drewN | apply keep_drew | apply keep_alloc) | exact HK.out)))); have n1_ := Aside0.mk (KeepBut.trans (by repeat (first | (with_reducible first | exact HK.out | apply KeepBut.set_ | apply keep_drewN | apply keep_drew | apply keep_alloc) | exact HK.out)) hk (.inl rfl)); have n2_ := Aside0.mk (hb); have n3_ := Aside0.mk (hi); clear HK; clear HB; clear HI0; have HO252 := n0_; have HK := n1_; have HB := n2_; have HI0 := n3_; clear n0_ n1_ n2_ n3_; (try clear hb); (try clear hb2); (try clear hk); (try clear hi); (try clear ho0)))
  go_ret
  exact ⟨_, by first | rfl | (simp [errW_none, errW_some] <;> rfl) | (simp [*, errW_none, errW_some] <;> rfl), by (with_reducible repeat (first | apply Kd.R_alloc | apply Kd.R_drewN | apply Kd.R_drew)); exact HO252.out, by repeat (first | (with_reducible first | exact HI0.out | apply IsS45.alloc | apply IsS45.drewN | apply IsS45.drew) | exact HI0.out), by repeat (first | (with_reducible first | exact HB.out | apply below_alloc | apply pw_below_drewN | apply below_drew1) | exact HB.out), by repeat (first | (with_reducible first | exact HK.out | apply KeepBut.set_ | apply keep_drewN | apply keep_drew | apply keep_alloc) | exact HK.out)⟩

end Go.Proofs.Ytkgakohgbbapaaa.PTreeThrough
