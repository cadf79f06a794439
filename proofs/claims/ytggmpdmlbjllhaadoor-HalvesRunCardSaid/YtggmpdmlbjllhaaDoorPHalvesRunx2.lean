-- Written for this claim by wip/gen/mk.sh, this session's own driver over the kit's print
import Derived.Test.YtggmpdmlbjllhaaDoorPHalvesRunx0
import Derived.Test.YtggmpdmlbjllhaaDoorPHalvesRunx1
namespace Go.Proofs.YtggmpdmlbjllhaaDoor.PHalvesRun
open Go.RowKit Go.Proofs.YtggmpdmlbjllhaaDoorW.PrintWords Go.Proofs.YtggmpdmlbjllhaaDoorW.PrintLast Go.Proofs.YtggmpdmlbjllhaaDoorW.PrintMore
attribute [local go_sem] max2_int min2_int max_two min_two max_three min_three max_four min_four   -- for this text's walks alone
set_option linter.unusedVariables false
set_option linter.unusedSimpArgs false

/-! ### twid_Table: function 41 -/
def twid_Table.f (k : Nat) (a0 : Int) (a1 : Int) : Option (List Int × Int) := (twid_Root.f k a0 a1).bind fun bt134 => (if bt134.2 = 0 then (if a0 > 20 then (some (([] : List Int), 14)) else (if 0 ≤ (IntKind.u64.wrap (a0)) then ((root_Powers.f k bt134.1 (mx ((shl .i64 1 (IntKind.u64.wrap (a0))) / 2) 1)).bind fun bt136 => (some (bt136.1, bt136.2))) else (none))) else (some (([] : List Int), bt134.2)))
theorem twid_Table.mono : ∀ a0 a1 k, LeO (twid_Table.f k a0 a1) (twid_Table.f (k + 1) a0 a1) := by
  intro a0 a1 k
  unfold twid_Table.f
  repeat' first
      | (with_reducible exact root_Powers.mono _ _ _)
      | (with_reducible exact twid_Root.mono _ _ _)
      | (with_reducible exact LeO.refl _)
      | (with_reducible exact LeO.none _)
      | (with_reducible refine LeO.ite ?_ ?_)
      | (with_reducible refine LeO.bind ?_ (fun _ => ?_))
      | exact root_Powers.mono _ _ _
      | exact twid_Root.mono _ _ _
      | exact LeO.none _
      | refine LeO.ite ?_ ?_
      | refine LeO.bind ?_ (fun _ => ?_)
set_option maxHeartbeats 8000000 in
set_option maxRecDepth 100000 in
theorem twid_Table.calls (k : Nat) (a0 : Int) (a1 : Int) (r1 : List Int) (r2 : Int) (w : World) (h : twid_Table.f k a0 a1 = some (r1, r2)) :
    Calls Tryd.prog 41 #[.int .i64 a0, .int .i64 a1] w fun e w' => ∃ v0_ : Value, e = .returned (.tuple #[v0_, .int .i64 r2]) ∧ Kd.R (Kd.int .u64) 32 w' w.heap.size (fun _ => True) v0_ r1 ∧ Below w.heap.size w w' := by
  have HB := Aside0.mk (Below.refl w.heap.size w)
  have H : ((twid_Root.f k a0 a1).bind fun bt134 => (if bt134.2 = 0 then (if a0 > 20 then (some (([] : List Int), 14)) else (if 0 ≤ (IntKind.u64.wrap (a0)) then ((root_Powers.f k bt134.1 (mx ((shl .i64 1 (IntKind.u64.wrap (a0))) / 2) 1)).bind fun bt136 => (some (bt136.1, bt136.2))) else (none))) else (some (([] : List Int), bt134.2)))) = some (r1, r2) := h
  clear h
  replace H := Option.bind_eq_some_iff.mp H
  obtain ⟨⟨t134, t135⟩, A30, H⟩ := H
  replace H : (if t135 = 0 then (if a0 > 20 then (some (([] : List Int), 14)) else (if 0 ≤ (IntKind.u64.wrap (a0)) then ((root_Powers.f k t134 (mx ((shl .i64 1 (IntKind.u64.wrap (a0))) / 2) 1)).bind fun bt136 => (some (bt136.1, bt136.2))) else (none))) else (some (([] : List Int), t135))) = some (r1, r2) := H
  have A3 := Aside0.mk A30
  clear A30
  by_cases c4 : t135 = 0
  · rw [if_pos c4] at H
    have c4b0 : (t135 == 0) = true := beq_iff_eq.mpr c4
    have c4b1 : (t135 != 0) = false := bne_eq_false_iff_eq.mpr c4
    clear c4
    by_cases c5 : a0 > 20
    · rw [if_pos c5] at H
      have c5b0 : decide (20 < a0) = true := decide_eq_true c5
      clear c5
      simp only [Option.some.injEq, Prod.mk.injEq] at H
      obtain ⟨rfl, rfl⟩ := H
      go_enter Tryd.func41, Tryd.ntmps41
      go_wp2_with (first | ((with_reducible refine gate_callee (f := 57) rfl ?_); refine goesL_ (some 11) rfl rfl Tryd.func57 (by kernel_rfl) rfl #[.int .i64 a0, .int .i64 a1] rfl (by (try simp only [List.map_toArray, List.map_cons, List.map_nil]); first | done | rfl | (simp only [List.length_drop, List.length_take]; rfl)) ?_; (with_reducible refine (twid_Root.calls k a0 a1 t134 t135 _ A3.out).mono ?_); rintro e w6 ⟨rfl, hb⟩; refine ⟨_, rfl, ?_⟩; have n0_ := Aside0.mk (below_step (by repeat (first | (with_reducible first | exact HB.out | apply below_alloc | apply pw_below_drewN | apply below_drew1) | exact HB.out)) hb); clear HB; have HB := n0_; clear n0_; (try clear hb); (try clear hb2); (try clear hk); (try clear hi)))
      go_ret2
      exact ⟨_, by first | rfl | (simp [errW_none, errW_some] <;> rfl) | (simp [*, errW_none, errW_some] <;> rfl), by first | exact Kd.R_nil _ _ _ _ _ | exact Kd.N_nil _ _ _ _ _ | exact Kd.V_nil _ _ _ _ _ | exact Kd.Q_nil _ _ _ _ _ | exact Kd.S_nil _ _ _ _ _, by repeat (first | (with_reducible first | exact HB.out | apply below_alloc | apply pw_below_drewN | apply below_drew1) | exact HB.out)⟩
    · rw [if_neg c5] at H
      have c5b0 : decide (20 < a0) = false := decide_eq_false c5
      clear c5
      obtain ⟨ji7, hji7⟩ : ∃ j_ : Int, (IntKind.u64.wrap (a0)) = j_ := ⟨_, rfl⟩
      replace H : (if 0 ≤ (ji7) then ((root_Powers.f k t134 (mx ((shl .i64 1 (ji7)) / 2) 1)).bind fun bt136 => (some (bt136.1, bt136.2))) else (none)) = some (r1, r2) := by first | (rw [hji7] at H; exact H) | (simp only [hji7] at H ⊢; exact H)
      (try rw [hji7] at A3)
      by_cases c8 : 0 ≤ (ji7)
      · rw [if_pos c8] at H
        have c8b0 := eq_true c8
        have c8b1 : decide (0 ≤ (ji7)) = true := decide_eq_true c8
        clear c8
        obtain ⟨ji9, hji9⟩ : ∃ j_ : Int, (shl .i64 1 (ji7)) = j_ := ⟨_, rfl⟩
        replace H : ((root_Powers.f k t134 (mx ((ji9) / 2) 1)).bind fun bt136 => (some (bt136.1, bt136.2))) = some (r1, r2) := by first | (rw [hji9] at H; exact H) | (simp only [hji9] at H ⊢; exact H)
        (try rw [hji9] at A3)
        have hji9_ : (IntKind.i64.wrap (1 * 2 ^ min (ji7).toNat 64)) = ji9 := hji9
        have hji9z : (ji7) ≤ 64 → (IntKind.i64.wrap (1 * 2 ^ (ji7).toNat)) = ji9 := shl_small hji9
        have hji9u : (IntKind.i64.wrap (2 ^ min (ji7).toNat 64)) = ji9 := by have h_ := hji9_; rw [Int.one_mul] at h_; exact h_
        have hji9v : (ji7) ≤ 64 → (IntKind.i64.wrap (2 ^ (ji7).toNat)) = ji9 := fun hle_ => by have h_ := hji9z hle_; rw [Int.one_mul] at h_; exact h_
        have hji9y : (wrap64 (1 * 2 ^ min (ji7).toNat 64)) = ji9 := (i64_w _).symm.trans hji9_
        have hji9x : (ji7) ≤ 64 → (wrap64 (1 * 2 ^ (ji7).toNat)) = ji9 := fun h_ => (i64_w _).symm.trans (hji9z h_)
        obtain ⟨ji10, hji10⟩ : ∃ j_ : Int, (mx ((ji9) / 2) 1) = j_ := ⟨_, rfl⟩
        replace H : ((root_Powers.f k t134 (ji10)).bind fun bt136 => (some (bt136.1, bt136.2))) = some (r1, r2) := by first | (rw [hji10] at H; exact H) | (simp only [hji10] at H ⊢; exact H)
        (try rw [hji10] at A3)
        have hji10_ : (if ((ji9) / 2) < 1 then 1 else ((ji9) / 2)) = ji10 := hji10
        replace H := Option.bind_eq_some_iff.mp H
        obtain ⟨⟨t136, t137⟩, A110, H⟩ := H
        replace H : (some (t136, t137)) = some (r1, r2) := H
        have A11 := Aside0.mk A110
        clear A110
        simp only [Option.some.injEq, Prod.mk.injEq] at H
        obtain ⟨rfl, rfl⟩ := H
        go_enter Tryd.func41, Tryd.ntmps41
        go_wp2_with (first | ((with_reducible refine gate_callee (f := 57) rfl ?_); refine goesL_ (some 11) rfl rfl Tryd.func57 (by kernel_rfl) rfl #[.int .i64 a0, .int .i64 a1] rfl (by (try simp only [List.map_toArray, List.map_cons, List.map_nil]); first | done | rfl | (simp only [List.length_drop, List.length_take]; rfl)) ?_; (with_reducible refine (twid_Root.calls k a0 a1 t134 t135 _ A3.out).mono ?_); rintro e w12 ⟨rfl, hb⟩; refine ⟨_, rfl, ?_⟩; have n0_ := Aside0.mk (below_step (by repeat (first | (with_reducible first | exact HB.out | apply below_alloc | apply pw_below_drewN | apply below_drew1) | exact HB.out)) hb); clear HB; have HB := n0_; clear n0_; (try clear hb); (try clear hb2); (try clear hk); (try clear hi)) | ((with_reducible refine gate_callee (f := 58) rfl ?_); refine goesL_ (some 27) rfl rfl Tryd.func58 (by kernel_rfl) rfl #[.int .u64 t134, .int .i64 ji10] rfl (by (try simp only [List.map_toArray, List.map_cons, List.map_nil]); first | done | (simp only [hji10]; rfl) | rfl | (simp only [List.length_drop, List.length_take]; rfl)) ?_; (with_reducible refine (root_Powers.calls k t134 ji10 t136 t137 _ A11.out).mono ?_); rintro e w13 ⟨v138, rfl, ho0, hb⟩; refine ⟨_, rfl, ?_⟩; have n0_ := Aside0.mk (Kd.R_lower ho0 (below_size (by repeat (first | (with_reducible first | exact HB.out | apply below_alloc | apply pw_below_drewN | apply below_drew1) | exact HB.out)))); have n1_ := Aside0.mk (below_step (by repeat (first | (with_reducible first | exact HB.out | apply below_alloc | apply pw_below_drewN | apply below_drew1) | exact HB.out)) hb); clear HB; have HO139 := n0_; have HB := n1_; clear n0_ n1_; (try clear hb); (try clear hb2); (try clear hk); (try clear hi); (try clear ho0)))
        go_ret2
        exact ⟨_, by first | rfl | (simp [errW_none, errW_some] <;> rfl) | (simp only [← hji7, ← hji9, ← hji10]; first | rfl | (simp [errW_none, errW_some] <;> rfl)) | (simp [*, errW_none, errW_some] <;> rfl), by (with_reducible repeat (first | apply Kd.R_alloc | apply Kd.R_drewN | apply Kd.R_drew)); exact HO139.out, by repeat (first | (with_reducible first | exact HB.out | apply below_alloc | apply pw_below_drewN | apply below_drew1) | exact HB.out)⟩
      · rw [if_neg c8] at H
        exact absurd H (by simp)
  · rw [if_neg c4] at H
    have c4b0 : (t135 == 0) = false := beq_eq_false_iff_ne.mpr c4
    have c4b1 : (t135 != 0) = true := bne_iff_ne.mpr c4
    simp only [Option.some.injEq, Prod.mk.injEq] at H
    obtain ⟨rfl, rfl⟩ := H
    go_enter Tryd.func41, Tryd.ntmps41
    go_wp2_with (first | ((with_reducible refine gate_callee (f := 57) rfl ?_); refine goesL_ (some 11) rfl rfl Tryd.func57 (by kernel_rfl) rfl #[.int .i64 a0, .int .i64 a1] rfl (by (try simp only [List.map_toArray, List.map_cons, List.map_nil]); first | done | rfl | (simp only [List.length_drop, List.length_take]; rfl)) ?_; (with_reducible refine (twid_Root.calls k a0 a1 t134 t135 _ A3.out).mono ?_); rintro e w14 ⟨rfl, hb⟩; refine ⟨_, rfl, ?_⟩; have n0_ := Aside0.mk (below_step (by repeat (first | (with_reducible first | exact HB.out | apply below_alloc | apply pw_below_drewN | apply below_drew1) | exact HB.out)) hb); clear HB; have HB := n0_; clear n0_; (try clear hb); (try clear hb2); (try clear hk); (try clear hi)))
    go_ret2
    exact ⟨_, by first | rfl | (simp [errW_none, errW_some] <;> rfl) | (simp [*, errW_none, errW_some] <;> rfl), by first | exact Kd.R_nil _ _ _ _ _ | exact Kd.N_nil _ _ _ _ _ | exact Kd.V_nil _ _ _ _ _ | exact Kd.Q_nil _ _ _ _ _ | exact Kd.S_nil _ _ _ _ _, by repeat (first | (with_reducible first | exact HB.out | apply below_alloc | apply pw_below_drewN | apply below_drew1) | exact HB.out)⟩

/-! ### twid_Share: function 42 -/
def twid_Share.f (k : Nat) (a0 : Int) : Option (Int × Int) := if a0 < 0 then (some (0, 1)) else (if a0 > 32 then (some (0, 1)) else (if 0 ≤ (IntKind.u64.wrap (a0)) then ((gold_Inv.f k (shl .u64 1 (IntKind.u64.wrap (a0)))).bind fun bt140 => (some (bt140.1, bt140.2))) else (none)))
theorem twid_Share.mono : ∀ a0 k, LeO (twid_Share.f k a0) (twid_Share.f (k + 1) a0) := by
  intro a0 k
  unfold twid_Share.f
  repeat' first
      | (with_reducible exact gold_Inv.mono _ _)
      | (with_reducible exact LeO.refl _)
      | (with_reducible exact LeO.none _)
      | (with_reducible refine LeO.ite ?_ ?_)
      | (with_reducible refine LeO.bind ?_ (fun _ => ?_))
      | exact gold_Inv.mono _ _
      | exact LeO.none _
      | refine LeO.ite ?_ ?_
      | refine LeO.bind ?_ (fun _ => ?_)
set_option maxHeartbeats 8000000 in
set_option maxRecDepth 100000 in
theorem twid_Share.calls (k : Nat) (a0 : Int) (r1 : Int) (r2 : Int) (w : World) (h : twid_Share.f k a0 = some (r1, r2)) :
    Calls Tryd.prog 42 #[.int .i64 a0] w fun e w' => e = .returned (.tuple #[.int .u64 r1, .int .i64 r2]) ∧ Below w.heap.size w w' := by
  have HB := Aside0.mk (Below.refl w.heap.size w)
  have H : (if a0 < 0 then (some (0, 1)) else (if a0 > 32 then (some (0, 1)) else (if 0 ≤ (IntKind.u64.wrap (a0)) then ((gold_Inv.f k (shl .u64 1 (IntKind.u64.wrap (a0)))).bind fun bt140 => (some (bt140.1, bt140.2))) else (none)))) = some (r1, r2) := h
  clear h
  by_cases c2 : a0 < 0
  · rw [if_pos c2] at H
    have c2b0 : decide (a0 < 0) = true := decide_eq_true c2
    clear c2
    simp only [Option.some.injEq, Prod.mk.injEq] at H
    obtain ⟨rfl, rfl⟩ := H
    go_enter Tryd.func42, Tryd.ntmps42
    go_wp2
    go_ret2
    exact ⟨by first | rfl | (simp [errW_none, errW_some] <;> rfl) | (simp [*, errW_none, errW_some] <;> rfl), by repeat (first | (with_reducible first | exact HB.out | apply below_alloc | apply pw_below_drewN | apply below_drew1) | exact HB.out)⟩
  · rw [if_neg c2] at H
    have c2b0 : decide (a0 < 0) = false := decide_eq_false c2
    clear c2
    by_cases c3 : a0 > 32
    · rw [if_pos c3] at H
      have c3b0 : decide (32 < a0) = true := decide_eq_true c3
      clear c3
      simp only [Option.some.injEq, Prod.mk.injEq] at H
      obtain ⟨rfl, rfl⟩ := H
      go_enter Tryd.func42, Tryd.ntmps42
      go_wp2
      go_ret2
      exact ⟨by first | rfl | (simp [errW_none, errW_some] <;> rfl) | (simp [*, errW_none, errW_some] <;> rfl), by repeat (first | (with_reducible first | exact HB.out | apply below_alloc | apply pw_below_drewN | apply below_drew1) | exact HB.out)⟩
    · rw [if_neg c3] at H
      have c3b0 : decide (32 < a0) = false := decide_eq_false c3
      clear c3
      obtain ⟨ji4, hji4⟩ : ∃ j_ : Int, (IntKind.u64.wrap (a0)) = j_ := ⟨_, rfl⟩
      replace H : (if 0 ≤ (ji4) then ((gold_Inv.f k (shl .u64 1 (ji4))).bind fun bt140 => (some (bt140.1, bt140.2))) else (none)) = some (r1, r2) := by first | (rw [hji4] at H; exact H) | (simp only [hji4] at H ⊢; exact H)
      by_cases c5 : 0 ≤ (ji4)
      · rw [if_pos c5] at H
        have c5b0 := eq_true c5
        have c5b1 : decide (0 ≤ (ji4)) = true := decide_eq_true c5
        clear c5
        obtain ⟨ji6, hji6⟩ : ∃ j_ : Int, (shl .u64 1 (ji4)) = j_ := ⟨_, rfl⟩
        replace H : ((gold_Inv.f k (ji6)).bind fun bt140 => (some (bt140.1, bt140.2))) = some (r1, r2) := by first | (rw [hji6] at H; exact H) | (simp only [hji6] at H ⊢; exact H)
        have hji6_ : (IntKind.u64.wrap (1 * 2 ^ min (ji4).toNat 64)) = ji6 := hji6
        have hji6z : (ji4) ≤ 64 → (IntKind.u64.wrap (1 * 2 ^ (ji4).toNat)) = ji6 := shl_small hji6
        have hji6u : (IntKind.u64.wrap (2 ^ min (ji4).toNat 64)) = ji6 := by have h_ := hji6_; rw [Int.one_mul] at h_; exact h_
        have hji6v : (ji4) ≤ 64 → (IntKind.u64.wrap (2 ^ (ji4).toNat)) = ji6 := fun hle_ => by have h_ := hji6z hle_; rw [Int.one_mul] at h_; exact h_
        replace H := Option.bind_eq_some_iff.mp H
        obtain ⟨⟨t140, t141⟩, A70, H⟩ := H
        replace H : (some (t140, t141)) = some (r1, r2) := H
        have A7 := Aside0.mk A70
        clear A70
        simp only [Option.some.injEq, Prod.mk.injEq] at H
        obtain ⟨rfl, rfl⟩ := H
        go_enter Tryd.func42, Tryd.ntmps42
        go_wp2_with (first | ((with_reducible refine gate_callee (f := 59) rfl ?_); refine goesL_ (some 13) rfl rfl Tryd.func59 (by kernel_rfl) rfl #[.int .u64 ji6] rfl (by (try simp only [List.map_toArray, List.map_cons, List.map_nil]); first | done | (simp only [hji6]; rfl) | rfl | (simp only [List.length_drop, List.length_take]; rfl)) ?_; (with_reducible refine (gold_Inv.calls k ji6 t140 t141 _ A7.out).mono ?_); rintro e w8 ⟨rfl, hb⟩; refine ⟨_, rfl, ?_⟩; have n0_ := Aside0.mk (below_step (by repeat (first | (with_reducible first | exact HB.out | apply below_alloc | apply pw_below_drewN | apply below_drew1) | exact HB.out)) hb); clear HB; have HB := n0_; clear n0_; (try clear hb); (try clear hb2); (try clear hk); (try clear hi)))
        go_ret2
        exact ⟨by first | rfl | (simp [errW_none, errW_some] <;> rfl) | (simp only [← hji4, ← hji6]; first | rfl | (simp [errW_none, errW_some] <;> rfl)) | (simp [*, errW_none, errW_some] <;> rfl), by repeat (first | (with_reducible first | exact HB.out | apply below_alloc | apply pw_below_drewN | apply below_drew1) | exact HB.out)⟩
      · rw [if_neg c5] at H
        exact absurd H (by simp)

theorem hk_blk_cell {w : World} {g : Nat} {t : TypeId} {cs : Array Value} (h : w.heap[g]? = some (.cells cs t (0, 0))) (i : Nat) (v : Value) (hv : cs[i]? = some v) : w.cell? ⟨g, i, none⟩ = some v := by
  unfold World.cell?; rw [h]; exact hv
theorem hk_blk_frozen {w : World} {g : Nat} {t : TypeId} {cs : Array Value} (h : w.heap[g]? = some (.cells cs t (0, 0))) (i : Nat) : w.frozen? ⟨g, i, none⟩ = false := by
  unfold World.frozen?; rw [h]; simp
theorem hk_R_out {w : World} {e base : Nat} {ok : Nat → Prop} {v : Value} {xs : List Int} {b : Nat} (h : Kd.R (Kd.int .u64) e w base ok v xs) (hb : b < base) : Kd.R (Kd.int .u64) e w b (fun j => j ≠ b) v xs :=
  Kd.R_lower (Kd.R_mono (Kd.R_bound h) (fun k hk => by have := hk.2.1; omega)) (by omega)
theorem hk_drawn_below {w w' : World} (h : Drawn0 w w') : Below w.heap.size w w' := by
  obtain ⟨n, rfl⟩ := h.out
  exact pw_below_drewN (Below.refl _ _) n
theorem hk_wpList_copy_whole {P : Program} {W : World} {ops : Array Oper} {rest : List Oper} {o : Oper} {a : Act} {Q : Exit → Act → World → Prop} (hgd : o.guard = none) (dq sq : Operand) (T e : TypeId)
    (ho : o.op = .call { callee := .builtin .copy, args := #[dq, sq], argTypes := #[T, T] }) (hu : P.underlying T = some (.slice e)) (hsz : (P.info? e).map (·.size) = some 1)
    (g n co : Nat) (sp : Option Addr) (sc : Nat) (hd : a.eval dq = .slice (some ⟨g, 0, none⟩) n co) (hs : a.eval sq = .slice sp n sc) {base : Nat} {ok : Nat → Prop} {xs ys : List Int}
    (hR : Kd.R (Kd.int .u64) e W base ok (.slice (some ⟨g, 0, none⟩) n co) xs) (hC : Kd.C (Kd.int .u64) W sp ys.length ys) (hl : ys.length = n) (hp : 0 < n)
    (h : ∀ W', Kd.R (Kd.int .u64) e W' base ok (.slice (some ⟨g, 0, none⟩) n co) ys → W.grownBy W' (some g) → wpList P ops Q rest (a.put o.dst (goInt n)) W') : wpList P ops Q (o :: rest) a W := by
  obtain ⟨hok, inner, ⟨hlen, hown⟩, _⟩ := hR
  rcases hown with ⟨he, _⟩ | ⟨g', cap, cur, he, hb, hg, hnc, hcm, hcs, htake⟩
  · cases he
  · injection he with e1 e2 e3
    injection e1 with e1
    injection e1 with e1
    subst e1 e3
    have hsp : ∃ ad, sp = some ad := by
      obtain ⟨ad, h1, _⟩ := Kd.at_int hC 0 (by omega) (by omega)
      exact ⟨ad, h1⟩
    obtain ⟨ad, rfl⟩ := hsp
    have hcl : (nums .u64 ys).length = n := by unfold nums; rw [List.length_map]; exact hl
    have hxn : xs.length = n := e2.symm
    refine wpList_copy_own hgd dq sq T T ho e hu hsz g 0 n co ad n sc hd hs cur e hg (nums .u64 ys) (by rw [hcl]; simp) ?_ (by rw [hcl]; have : (Kd.int .u64).sz = 1 := rfl; rw [this] at hcs; omega) ?_ ?_
    · intro j v hv
      unfold nums at hv
      rw [List.getElem?_map] at hv
      obtain ⟨y, hy, rfl⟩ := Option.map_eq_some_iff.1 hv
      have hj := (List.getElem?_eq_some_iff.1 hy).1
      obtain ⟨ad', h1, h2⟩ := Kd.at_int hC (j : Int) (by omega) (by omega)
      injection h1 with h1
      subst h1
      rw [Int.toNat_natCast] at h2
      rw [h2]
      unfold rd
      rw [Int.toNat_natCast, List.getD_eq_getElem?_getD, hy]
      rfl
    · intro v hv
      unfold nums at hv
      obtain ⟨y, _, rfl⟩ := List.mem_map.1 hv
      rfl
    · rw [hcl]
      refine h _ ?_ ⟨rfl, rfl, rfl, by simp [World.setRow], fun k hk hne => setRow_other W g k _ (fun e => hne (by rw [e]))⟩
      refine Kd.R_of_own (enc := Value.int .u64) (h1 := fun _ => rfl) ?_ hok
      refine ⟨by simp [encs], .inr ⟨g, co, _, by rw [hl], hb, setRow_heap W g _ _ e _ hg, by omega, hcm, ?_, ?_⟩⟩
      · have : (Kd.int .u64).sz = 1 := rfl
        rw [this] at hcs
        simp [hcl]
        omega
      · simp [hcl, hl, encs, nums]
/-- What is refused, and how: a row of another length, an unknown direction. -/
def hk_err (k m : Nat) (d er : Int) : Prop := (m ≠ 2 ^ k ∧ er = 4) ∨ (m = 2 ^ k ∧ (d < 0 ∨ 1 < d) ∧ er = 18)
theorem hk_shl_k {k : Nat} (hk : k ≤ 20) : wrap64 (2 ^ min (IntKind.u64.wrap (k : Int)).toNat 64) = ((2 ^ k : Nat) : Int) := by
  have hp20 : 2 ^ k ≤ 1048576 := Nat.pow_le_pow_right (n := 2) (by omega) hk
  have e : IntKind.u64.wrap (k : Int) = (k : Int) := by simp [IntKind.wrap, IntKind.bits, IntKind.signed]; omega
  rw [e, Int.toNat_natCast, Nat.min_eq_left (by omega), show ((2 : Int) ^ k) = ((2 ^ k : Nat) : Int) by simp]
  generalize 2 ^ k = p at hp20 ⊢
  unfold wrap64
  omega
/-- A kernel by halves stands: its blocks lie between lo and hi. -/
def hk_K2 (k : Nat) (t0 t1 : List Int) (s : Int) (lo hi b : Nat) (W : World) : Prop :=
  (lo ≤ b ∧ b < hi) ∧ ∃ (v0 v1 : Value), W.heap[b]? = some (.cells #[v0, v1, .int .u64 s, .int .i64 (k : Int)] 59 (0, 0)) ∧
    Kd.R (Kd.int .u64) 32 W lo (fun j => j < hi) v0 t0 ∧ Kd.R (Kd.int .u64) 32 W lo (fun j => j < hi) v1 t1
section
variable {k : Nat} {t0 t1 : List Int} {s : Int} {lo hi b : Nat} {W W2 : World} {S : Nat → Prop}
theorem hk_K2.kept (h : hk_K2 k t0 t1 s lo hi b W) (hk : Kept W W2 S) (hS : ∀ j, S j → j < lo ∨ hi ≤ j) : hk_K2 k t0 t1 s lo hi b W2 := by
  obtain ⟨⟨h0, h1⟩, v0, v1, hX, hR0, hR1⟩ := h
  have no : ∀ j, lo ≤ j → j < hi → ¬ S j := fun j hl hj hs => by have := hS j hs; omega
  exact ⟨⟨h0, h1⟩, v0, v1, blk_kept hX hk (no b h0 h1), Kd.R_mono (Kd.R_kept (Kd.R_bound hR0) hk (fun j hj => no j hj.2.1 hj.1)) (fun j hj => hj.1), Kd.R_mono (Kd.R_kept (Kd.R_bound hR1) hk (fun j hj => no j hj.2.1 hj.1)) (fun j hj => hj.1)⟩
theorem hk_K2.below (h : hk_K2 k t0 t1 s lo hi b W) (hb : Below W.heap.size W W2) : hk_K2 k t0 t1 s lo hi b W2 :=
  h.kept (Kept.of_below hb (fun _ => False)) (fun _ hf => hf.elim)
end
theorem hk_K2.inner {k : Nat} {t0 t1 : List Int} {s : Int} {lo hi b : Nat} {W : World} (h : hk_K2 k t0 t1 s lo hi b W) : ∃ (v0 v1 : Value), W.heap[b]? = some (.cells #[v0, v1, .int .u64 s, .int .i64 (k : Int)] 59 (0, 0)) := by
  obtain ⟨_, v0, v1, hX, _, _⟩ := h
  exact ⟨v0, v1, hX⟩
/-! ### kern2_New: function 22 (by hand) -/
set_option maxHeartbeats 8000000 in
set_option maxRecDepth 100000 in
theorem kern2_New.calls (k : Nat) (a : Int) (t0 t1 : List Int) (e0 e1 s es : Int) (w : World) (h0 : decide (a < 0) = false) (h1 : decide (20 < a) = false) (H0 : twid_Table.f k a 0 = some (t0, e0)) (H1 : twid_Table.f k a 1 = some (t1, e1)) (HS : twid_Share.f k a = some (s, es)) :
    Calls Tryd.prog 22 #[.int .i64 a] w fun e w' => ∃ (v0 v1 : Value), e = .returned (.pointer (some ⟨w.heap.size, 0, none⟩)) ∧ Below w.heap.size w w' ∧ w'.heap[w.heap.size]? = some (.cells #[v0, v1, .int .u64 s, .int .i64 a] 59 (0,0)) ∧ Kd.R (Kd.int .u64) 32 w' w.heap.size (fun j => j ≠ w.heap.size) v0 t0 ∧ Kd.R (Kd.int .u64) 32 w' w.heap.size (fun j => j ≠ w.heap.size) v1 t1 := by
  have A0 := Aside0.mk H0
  have A1 := Aside0.mk H1
  have AS := Aside0.mk HS
  clear H0 H1 HS
  go_enter Tryd.func22, Tryd.ntmps22
  go_wp2
  have X := Aside0.mk (show (w.alloc (.cells #[.slice none 0 0, .slice none 0 0, .int .u64 0, .int .i64 a] 59)).heap[w.heap.size]? = some (.cells #[.slice none 0 0, .slice none 0 0, .int .u64 0, .int .i64 a] 59 (0,0)) from Array.getElem?_push_size)
  have B := Aside0.mk ((Below.refl w.heap.size w).alloc (Nat.le_refl _) (.cells #[.slice none 0 0, .slice none 0 0, .int .u64 0, .int .i64 a] 59))
  have Z := Aside0.mk (show w.heap.size < (w.alloc (.cells #[.slice none 0 0, .slice none 0 0, .int .u64 0, .int .i64 a] 59)).heap.size by simp)
  obtain ⟨b, hb⟩ : ∃ b, b = w.heap.size := ⟨_, rfl⟩
  rw [← hb] at X B Z ⊢
  have Hb := Aside0.mk hb
  clear hb
  generalize w.alloc (.cells #[.slice none 0 0, .slice none 0 0, .int .u64 0, .int .i64 a] 59) = W1 at X B Z ⊢
  refine wp_loop_rounds 3 ?_
  rw [rounds_succ]
  go_wp2
  go_region_with ((go_at_call 41; (with_reducible refine (twid_Table.calls k a 0 t0 e0 _ A0.out).mono ?_); rintro e w1 ⟨v0, rfl, hR0, hB0⟩; obtain ⟨A_, c_, rfl⟩ := Kd.R_slice hR0; have X1 := (hB0.block _ Z.out).trans X.out; have f0 := hk_blk_frozen X1 0; have c0 := hk_blk_cell X1 0 _ rfl; have hX1 := Aside0.mk X1; clear X1; have X1 := hX1; clear hX1; have hR0 := Aside0.mk hR0; have hB0 := Aside0.mk hB0))
  clear c0 f0
  have X2 := Aside0.mk (blk_put X1.out 0 (.slice A_ t0.length c_) rfl)
  have R2 := Aside0.mk (Kd.R_far (hk_R_out hR0.out Z.out) (p := ⟨b, 0, none⟩) (fun k hk => hk) (.slice A_ t0.length c_))
  have B2 := Aside0.mk (((B.out.drew.trans (hB0.out.mono (Nat.le_of_lt Z.out))).setCell (p := ⟨b, 0, none⟩) (Nat.le_refl _) (.slice A_ t0.length c_)))
  have Z2 := Aside0.mk (show b < (w1.setCell ⟨b, 0, none⟩ (.slice A_ t0.length c_)).heap.size by have := hB0.out.size; have := Z.out; simp at *; omega)
  clear X1 hR0 hB0 X B Z
  generalize w1.setCell ⟨b, 0, none⟩ (.slice A_ t0.length c_) = W2 at X2 R2 B2 Z2 ⊢
  go_wp2
  rw [rounds_succ]
  go_wp2
  go_region_with ((go_at_call 41; (with_reducible refine (twid_Table.calls k a 1 t1 e1 _ A1.out).mono ?_); rintro e w3 ⟨v1, rfl, hR1, hB1⟩; obtain ⟨D_, d_, rfl⟩ := Kd.R_slice hR1; have X3 := (hB1.block _ Z2.out).trans X2.out; have f0 := hk_blk_frozen X3 1; have c0 := hk_blk_cell X3 1 _ rfl; have hX3 := Aside0.mk X3; clear X3; have X3 := hX3; clear hX3; have hR1 := Aside0.mk hR1; have hB1 := Aside0.mk hB1))
  clear c0 f0
  have X4 := Aside0.mk (blk_put X3.out 1 (.slice D_ t1.length d_) rfl)
  have R4 := Aside0.mk (Kd.R_far (hk_R_out hR1.out Z2.out) (p := ⟨b, 1, none⟩) (fun k hk => hk) (.slice D_ t1.length d_))
  have R2' := Aside0.mk (Kd.R_far (Kd.R_below (Kd.R_drew R2.out) hB1.out) (p := ⟨b, 1, none⟩) (fun k hk => hk) (.slice D_ t1.length d_))
  have B4 := Aside0.mk (((B2.out.drew.trans (hB1.out.mono (Nat.le_of_lt Z2.out))).setCell (p := ⟨b, 1, none⟩) (Nat.le_refl _) (.slice D_ t1.length d_)))
  have Z4 := Aside0.mk (show b < (w3.setCell ⟨b, 1, none⟩ (.slice D_ t1.length d_)).heap.size by have := hB1.out.size; have := Z2.out; simp at *; omega)
  clear X3 hR1 hB1 X2 B2 Z2 R2
  generalize w3.setCell ⟨b, 1, none⟩ (.slice D_ t1.length d_) = W4 at X4 R4 R2' B4 Z4 ⊢
  go_wp2
  rw [rounds_succ]
  go_wp2_with ((go_at_call 42; (with_reducible refine (twid_Share.calls k a s es _ AS.out).mono ?_); rintro e w5 ⟨rfl, hBs⟩; have X5 := (hBs.block _ Z4.out).trans X4.out; have f5 := hk_blk_frozen X5 2; have c5 := hk_blk_cell X5 2 _ rfl; have hX5 := Aside0.mk X5; clear X5; have X5 := hX5; clear hX5; have hBs := Aside0.mk hBs))
  clear f5 c5
  have X6 := Aside0.mk (blk_put X5.out 2 (.int .u64 s) rfl)
  have B6 := Aside0.mk ((B4.out.trans (hBs.out.mono (Nat.le_of_lt Z4.out))).setCell (p := ⟨b, 2, none⟩) (Nat.le_refl _) (.int .u64 s))
  have R6 := Aside0.mk (Kd.R_far (Kd.R_below R2'.out hBs.out) (p := ⟨b, 2, none⟩) (fun k hk => hk) (.int .u64 s))
  have R6' := Aside0.mk (Kd.R_far (Kd.R_below R4.out hBs.out) (p := ⟨b, 2, none⟩) (fun k hk => hk) (.int .u64 s))
  generalize w5.setCell ⟨b, 2, none⟩ (.int .u64 s) = W6 at X6 B6 R6 R6' ⊢
  go_ret
  rw [← Hb.out]
  exact ⟨_, _, rfl, B6.out, X6.out, R6.out, R6'.out⟩
set_option maxHeartbeats 800000 in
set_option maxRecDepth 100000 in
theorem kern2_New.none (a : Int) (w : World) (h : a < 0 ∨ 20 < a) : Calls Tryd.prog 22 #[.int .i64 a] w fun e w' => e = .returned (.pointer none) ∧ Drawn0 w w' := by
  by_cases c : a < 0
  · have d1 : decide (a < 0) = true := decide_eq_true c
    clear c h
    go_enter Tryd.func22, Tryd.ntmps22
    go_wp2
    go_ret
    exact ⟨rfl, by repeat (first | exact Drawn0.refl _ | apply Drawn0.step)⟩
  · have d1 : decide (a < 0) = false := decide_eq_false c
    have d2 : decide (20 < a) = true := decide_eq_true (by omega)
    clear c h
    go_enter Tryd.func22, Tryd.ntmps22
    go_wp2
    go_ret
    exact ⟨rfl, by repeat (first | exact Drawn0.refl _ | apply Drawn0.step)⟩
/-- A kernel's tables, by halves. -/
def hk_tabs2 (n k : Nat) (t0 t1 : List Int) (s : Int) : Prop := ∃ (e0 e1 es : Int), twid_Table.f n (k : Int) 0 = some (t0, e0) ∧ twid_Table.f n (k : Int) 1 = some (t1, e1) ∧ twid_Share.f n (k : Int) = some (s, es)
theorem hk_New2.at (n a : Nat) (t0 t1 : List Int) (s : Int) (w : World) (ha : a ≤ 20) (h : hk_tabs2 n a t0 t1 s) :
    Calls Tryd.prog 22 #[.int .i64 (a : Int)] w fun e w' => ∃ b, e = .returned (.pointer (some ⟨b, 0, none⟩)) ∧ Below w.heap.size w w' ∧ hk_K2 a t0 t1 s w.heap.size w'.heap.size b w' := by
  obtain ⟨e0, e1, es, h1, h2, h3⟩ := h
  refine (kern2_New.calls n a t0 t1 e0 e1 s es w (decide_eq_false (by omega)) (decide_eq_false (by omega)) h1 h2 h3).mono ?_
  rintro e w' ⟨v0, v1, rfl, hB, hX, hR0, hR1⟩
  exact ⟨w.heap.size, rfl, hB, ⟨Nat.le_refl _, blk_lt hX⟩, v0, v1, hX, Kd.R_mono (Kd.R_bound hR0) (fun j hj => hj.2.2.1), Kd.R_mono (Kd.R_bound hR1) (fun j hj => hj.2.2.1)⟩

-- NOT PRINTED: function 44 (kern2_tables_table)

/-! ### bits_TrailingZeros64: function 52 (reads the listed table) -/
/-- the places of the table's numbers -/
def tzAt (a : Int) : Int := IntKind.u64.wrap (bits BinOp.and IntKind.u64 a (IntKind.u64.wrap (-a)) * 285870213051353865) / 288230376151711744
def tzTab : List Int := [0, 1, 56, 2, 57, 49, 28, 3, 61, 58, 42, 50, 38, 29, 17, 4, 62, 47, 59, 36, 45, 43, 51, 22, 53, 39, 33, 30, 24, 18, 12, 5, 63, 55, 48, 27, 60, 41, 37, 16, 46, 35, 44, 21, 52, 32, 23, 11, 54, 26, 40, 15, 34, 20, 31, 10, 25, 14, 19, 9, 13, 8, 7, 6]
def TzTab (w : World) : Prop := ∀ i : Nat, i < 64 → w.cell? ⟨0, i, none⟩ = some (.int .u8 (tzTab.getD i 0))
theorem TzTab.below {w w' : World} (h : TzTab w) (hb : Below w.heap.size w w') : TzTab w' := fun i hi => (hb.cell (p := ⟨0, i, none⟩) (World.block_lt_of_cell? _ _ (h i hi))).trans (h i hi)
set_option maxHeartbeats 8000000 in
set_option maxRecDepth 100000 in
theorem tz_walk (a r : Int) (w : World) (h0 : (a == 0) = false) (hx : 0 ≤ tzAt a ∧ tzAt a < 64) (hr : IntKind.i64.wrap r = r) (hc : w.cell? ⟨0, (tzAt a).toNat, none⟩ = some (.int .u8 r)) : Calls Tryd.prog 52 #[.int .u64 a] w fun e w' => e = .returned (.int .i64 r) ∧ Drawn0 w w' := by
  unfold tzAt at hx hc
  go_enter Tryd.func52, Tryd.ntmps52
  go_wp2
  go_ret
  exact ⟨by first | rfl | (simp; done) | (simp [*]; done), by repeat (first | exact Drawn0.refl _ | apply Drawn0.step)⟩
/-- of the powers of two below 2^33 alone -/
def bits_TrailingZeros64.f (a : Int) : Option Int := Option.map (fun j : Nat => Int.ofNat j) ((List.range 33).find? fun j => decide (((2 ^ j : Nat) : Int) = a))
theorem tz_all : ((List.range 33).all fun j => let a : Int := ((2 ^ j : Nat) : Int); !(a == 0) && decide (0 ≤ tzAt a) && decide (tzAt a < 64) && decide (tzTab.getD (tzAt a).toNat 0 = (j : Int)) && decide (IntKind.i64.wrap (j : Int) = (j : Int))) = true := by decide +kernel
theorem bits_TrailingZeros64.calls (a0 : Int) (r : Int) (w : World) (hG : Aside0 (TzTab w)) (h : bits_TrailingZeros64.f a0 = some r) : Calls Tryd.prog 52 #[.int .u64 a0] w fun e w' => e = .returned (.int .i64 r) ∧ Drawn0 w w' := by
  obtain ⟨j, hj, rfl⟩ := Option.map_eq_some_iff.1 h
  have hp := List.find?_some hj
  have hm := List.mem_of_find?_eq_some hj
  have hl : j < 33 := List.mem_range.1 hm
  obtain rfl : ((2 ^ j : Nat) : Int) = a0 := of_decide_eq_true hp
  have ha := List.all_eq_true.1 tz_all j hm
  simp only [Bool.and_eq_true, decide_eq_true_eq, Bool.not_eq_true'] at ha
  obtain ⟨⟨⟨⟨h0, h1⟩, h2⟩, h3⟩, h4⟩ := ha
  refine tz_walk _ _ w h0 ⟨h1, h2⟩ h4 ?_
  rw [hG.out _ (by omega), h3]; rfl

/-! ### root_Fits: function 30 -/
def root_Fits.f (a0 : Int) : Option (Int × Bool) := if a0 < 1 then (some (0, false)) else (if a0 > 4294967296 then (some (0, false)) else (if (Go.bits .and .i64 a0 (wrap64 (a0 - 1))) = 0 then ((bits_TrailingZeros64.f (IntKind.u64.wrap (a0))).bind fun t142 => (some (t142, true))) else (some (0, false))))
set_option maxHeartbeats 8000000 in
set_option maxRecDepth 100000 in
theorem root_Fits.calls (a0 : Int) (r1 : Int) (r2 : Bool) (w : World) (hG : Aside0 (TzTab w)) (h : root_Fits.f a0 = some (r1, r2)) :
    Calls Tryd.prog 30 #[.int .i64 a0] w fun e w' => e = .returned (.tuple #[.int .i64 r1, .bool r2]) ∧ Drawn0 w w' := by
  have H : (if a0 < 1 then (some (0, false)) else (if a0 > 4294967296 then (some (0, false)) else (if (Go.bits .and .i64 a0 (wrap64 (a0 - 1))) = 0 then ((bits_TrailingZeros64.f (IntKind.u64.wrap (a0))).bind fun t142 => (some (t142, true))) else (some (0, false))))) = some (r1, r2) := h
  clear h
  by_cases c2 : a0 < 1
  · rw [if_pos c2] at H
    have c2b0 : decide (a0 < 1) = true := decide_eq_true c2
    clear c2
    simp only [Option.some.injEq, Prod.mk.injEq] at H
    obtain ⟨rfl, rfl⟩ := H
    go_enter Tryd.func30, Tryd.ntmps30
    go_wp2
    go_ret2
    exact ⟨by first | rfl | (simp; done) | (simp [*]; done), by repeat (first | exact Drawn0.refl _ | apply Drawn0.step)⟩
  · rw [if_neg c2] at H
    have c2b0 : decide (a0 < 1) = false := decide_eq_false c2
    clear c2
    by_cases c3 : a0 > 4294967296
    · rw [if_pos c3] at H
      have c3b0 : decide (4294967296 < a0) = true := decide_eq_true c3
      clear c3
      simp only [Option.some.injEq, Prod.mk.injEq] at H
      obtain ⟨rfl, rfl⟩ := H
      go_enter Tryd.func30, Tryd.ntmps30
      go_wp2
      go_ret2
      exact ⟨by first | rfl | (simp; done) | (simp [*]; done), by repeat (first | exact Drawn0.refl _ | apply Drawn0.step)⟩
    · rw [if_neg c3] at H
      have c3b0 : decide (4294967296 < a0) = false := decide_eq_false c3
      clear c3
      by_cases c4 : (Go.bits .and .i64 a0 (wrap64 (a0 - 1))) = 0
      · rw [if_pos c4] at H
        have c4b0 : ((Go.bits .and .i64 a0 (wrap64 (a0 - 1))) == 0) = true := beq_iff_eq.mpr c4
        have c4b1 : ((Go.bits .and .i64 a0 (wrap64 (a0 - 1))) != 0) = false := bne_eq_false_iff_eq.mpr c4
        clear c4
        replace H := Option.bind_eq_some_iff.mp H
        obtain ⟨t142, A50, H⟩ := H
        replace H : (some (t142, true)) = some (r1, r2) := H
        have A5 := Aside0.mk A50
        clear A50
        simp only [Option.some.injEq, Prod.mk.injEq] at H
        obtain ⟨rfl, rfl⟩ := H
        go_enter Tryd.func30, Tryd.ntmps30
        go_wp2_with (first | ((with_reducible refine gate_callee (f := 52) rfl ?_); refine goesL_ (some 19) rfl rfl Tryd.func52 (by kernel_rfl) rfl #[.int .u64 (IntKind.u64.wrap (a0))] rfl (by (try simp only [List.map_toArray, List.map_cons, List.map_nil]); first | done | rfl | (simp only [List.length_drop, List.length_take]; rfl)) ?_; (with_reducible refine (bits_TrailingZeros64.calls (IntKind.u64.wrap (a0)) t142 _ ?sideG A5.out).mono ?_); (case sideG => first | exact hG | exact ⟨hG.out⟩ | exact ⟨hG.out.below (by repeat (first | (with_reducible first | exact HB.out | apply below_alloc | apply pw_below_drewN | apply below_drew1) | exact HB.out))⟩); rintro e w' ⟨rfl, ⟨nd, rfl⟩⟩; refine ⟨_, rfl, ?_⟩))
        go_ret2
        exact ⟨by first | rfl | (simp; done) | (simp [*]; done), by repeat (first | exact Drawn0.refl _ | apply Drawn0.step)⟩
      · rw [if_neg c4] at H
        have c4b0 : ((Go.bits .and .i64 a0 (wrap64 (a0 - 1))) == 0) = false := beq_eq_false_iff_ne.mpr c4
        have c4b1 : ((Go.bits .and .i64 a0 (wrap64 (a0 - 1))) != 0) = true := bne_iff_ne.mpr c4
        simp only [Option.some.injEq, Prod.mk.injEq] at H
        obtain ⟨rfl, rfl⟩ := H
        go_enter Tryd.func30, Tryd.ntmps30
        go_wp2
        go_ret2
        exact ⟨by first | rfl | (simp; done) | (simp [*]; done), by repeat (first | exact Drawn0.refl _ | apply Drawn0.step)⟩

-- NOT PRINTED: function 60 (rev_move)

/-! ### bits_ReverseBytes64: function 74 -/
def bits_ReverseBytes64.f (a0 : Int) : Option (Int) := some (Go.bits .or .u64 ((Go.bits .or .u64 (Go.bits .and .u64 ((Go.bits .or .u64 (Go.bits .and .u64 (a0 / 256) 71777214294589695) (IntKind.u64.wrap ((Go.bits .and .u64 a0 71777214294589695) * 256))) / 65536) 281470681808895) (IntKind.u64.wrap ((Go.bits .and .u64 (Go.bits .or .u64 (Go.bits .and .u64 (a0 / 256) 71777214294589695) (IntKind.u64.wrap ((Go.bits .and .u64 a0 71777214294589695) * 256))) 281470681808895) * 65536))) / 4294967296) (IntKind.u64.wrap ((Go.bits .or .u64 (Go.bits .and .u64 ((Go.bits .or .u64 (Go.bits .and .u64 (a0 / 256) 71777214294589695) (IntKind.u64.wrap ((Go.bits .and .u64 a0 71777214294589695) * 256))) / 65536) 281470681808895) (IntKind.u64.wrap ((Go.bits .and .u64 (Go.bits .or .u64 (Go.bits .and .u64 (a0 / 256) 71777214294589695) (IntKind.u64.wrap ((Go.bits .and .u64 a0 71777214294589695) * 256))) 281470681808895) * 65536))) * 4294967296)))
set_option maxHeartbeats 8000000 in
set_option maxRecDepth 100000 in
theorem bits_ReverseBytes64.calls (a0 : Int) (r : Int) (w : World) (h : bits_ReverseBytes64.f a0 = some r) :
    Calls Tryd.prog 74 #[.int .u64 a0] w fun e w' => e = .returned (.int .u64 r) ∧ Drawn0 w w' := by
  have H : (some (Go.bits .or .u64 ((Go.bits .or .u64 (Go.bits .and .u64 ((Go.bits .or .u64 (Go.bits .and .u64 (a0 / 256) 71777214294589695) (IntKind.u64.wrap ((Go.bits .and .u64 a0 71777214294589695) * 256))) / 65536) 281470681808895) (IntKind.u64.wrap ((Go.bits .and .u64 (Go.bits .or .u64 (Go.bits .and .u64 (a0 / 256) 71777214294589695) (IntKind.u64.wrap ((Go.bits .and .u64 a0 71777214294589695) * 256))) 281470681808895) * 65536))) / 4294967296) (IntKind.u64.wrap ((Go.bits .or .u64 (Go.bits .and .u64 ((Go.bits .or .u64 (Go.bits .and .u64 (a0 / 256) 71777214294589695) (IntKind.u64.wrap ((Go.bits .and .u64 a0 71777214294589695) * 256))) / 65536) 281470681808895) (IntKind.u64.wrap ((Go.bits .and .u64 (Go.bits .or .u64 (Go.bits .and .u64 (a0 / 256) 71777214294589695) (IntKind.u64.wrap ((Go.bits .and .u64 a0 71777214294589695) * 256))) 281470681808895) * 65536))) * 4294967296)))) = some r := h
  clear h
  obtain rfl := Option.some.inj H
  go_enter Tryd.func74, Tryd.ntmps74
  go_wp2
  go_ret
  exact ⟨by first | rfl | (simp; done) | (simp [*]; done), by repeat (first | exact Drawn0.refl _ | apply Drawn0.step)⟩

/-! ### bits_Reverse64: function 70 -/
def bits_Reverse64.f (a0 : Int) : Option (Int) := (bits_ReverseBytes64.f (Go.bits .or .u64 (Go.bits .and .u64 ((Go.bits .or .u64 (Go.bits .and .u64 ((Go.bits .or .u64 (Go.bits .and .u64 (a0 / 2) 6148914691236517205) (IntKind.u64.wrap ((Go.bits .and .u64 a0 6148914691236517205) * 2))) / 4) 3689348814741910323) (IntKind.u64.wrap ((Go.bits .and .u64 (Go.bits .or .u64 (Go.bits .and .u64 (a0 / 2) 6148914691236517205) (IntKind.u64.wrap ((Go.bits .and .u64 a0 6148914691236517205) * 2))) 3689348814741910323) * 4))) / 16) 1085102592571150095) (IntKind.u64.wrap ((Go.bits .and .u64 (Go.bits .or .u64 (Go.bits .and .u64 ((Go.bits .or .u64 (Go.bits .and .u64 (a0 / 2) 6148914691236517205) (IntKind.u64.wrap ((Go.bits .and .u64 a0 6148914691236517205) * 2))) / 4) 3689348814741910323) (IntKind.u64.wrap ((Go.bits .and .u64 (Go.bits .or .u64 (Go.bits .and .u64 (a0 / 2) 6148914691236517205) (IntKind.u64.wrap ((Go.bits .and .u64 a0 6148914691236517205) * 2))) 3689348814741910323) * 4))) 1085102592571150095) * 16)))).bind fun t143 => (some t143)
set_option maxHeartbeats 8000000 in
set_option maxRecDepth 100000 in
theorem bits_Reverse64.calls (a0 : Int) (r : Int) (w : World) (h : bits_Reverse64.f a0 = some r) :
    Calls Tryd.prog 70 #[.int .u64 a0] w fun e w' => e = .returned (.int .u64 r) ∧ Drawn0 w w' := by
  have H : ((bits_ReverseBytes64.f (Go.bits .or .u64 (Go.bits .and .u64 ((Go.bits .or .u64 (Go.bits .and .u64 ((Go.bits .or .u64 (Go.bits .and .u64 (a0 / 2) 6148914691236517205) (IntKind.u64.wrap ((Go.bits .and .u64 a0 6148914691236517205) * 2))) / 4) 3689348814741910323) (IntKind.u64.wrap ((Go.bits .and .u64 (Go.bits .or .u64 (Go.bits .and .u64 (a0 / 2) 6148914691236517205) (IntKind.u64.wrap ((Go.bits .and .u64 a0 6148914691236517205) * 2))) 3689348814741910323) * 4))) / 16) 1085102592571150095) (IntKind.u64.wrap ((Go.bits .and .u64 (Go.bits .or .u64 (Go.bits .and .u64 ((Go.bits .or .u64 (Go.bits .and .u64 (a0 / 2) 6148914691236517205) (IntKind.u64.wrap ((Go.bits .and .u64 a0 6148914691236517205) * 2))) / 4) 3689348814741910323) (IntKind.u64.wrap ((Go.bits .and .u64 (Go.bits .or .u64 (Go.bits .and .u64 (a0 / 2) 6148914691236517205) (IntKind.u64.wrap ((Go.bits .and .u64 a0 6148914691236517205) * 2))) 3689348814741910323) * 4))) 1085102592571150095) * 16)))).bind fun t143 => (some t143)) = some r := h
  clear h
  replace H := Option.bind_eq_some_iff.mp H
  obtain ⟨t143, A20, H⟩ := H
  replace H : (some t143) = some r := H
  have A2 := Aside0.mk A20
  clear A20
  obtain rfl := Option.some.inj H
  go_enter Tryd.func70, Tryd.ntmps70
  go_wp2_with (first | ((with_reducible refine gate_callee (f := 74) rfl ?_); refine goesL_ (some 25) rfl rfl Tryd.func74 (by kernel_rfl) rfl #[.int .u64 (Go.bits .or .u64 (Go.bits .and .u64 ((Go.bits .or .u64 (Go.bits .and .u64 ((Go.bits .or .u64 (Go.bits .and .u64 (a0 / 2) 6148914691236517205) (IntKind.u64.wrap ((Go.bits .and .u64 a0 6148914691236517205) * 2))) / 4) 3689348814741910323) (IntKind.u64.wrap ((Go.bits .and .u64 (Go.bits .or .u64 (Go.bits .and .u64 (a0 / 2) 6148914691236517205) (IntKind.u64.wrap ((Go.bits .and .u64 a0 6148914691236517205) * 2))) 3689348814741910323) * 4))) / 16) 1085102592571150095) (IntKind.u64.wrap ((Go.bits .and .u64 (Go.bits .or .u64 (Go.bits .and .u64 ((Go.bits .or .u64 (Go.bits .and .u64 (a0 / 2) 6148914691236517205) (IntKind.u64.wrap ((Go.bits .and .u64 a0 6148914691236517205) * 2))) / 4) 3689348814741910323) (IntKind.u64.wrap ((Go.bits .and .u64 (Go.bits .or .u64 (Go.bits .and .u64 (a0 / 2) 6148914691236517205) (IntKind.u64.wrap ((Go.bits .and .u64 a0 6148914691236517205) * 2))) 3689348814741910323) * 4))) 1085102592571150095) * 16)))] rfl (by (try simp only [List.map_toArray, List.map_cons, List.map_nil]); first | done | rfl | (simp only [List.length_drop, List.length_take]; rfl)) ?_; (with_reducible refine (bits_ReverseBytes64.calls (Go.bits .or .u64 (Go.bits .and .u64 ((Go.bits .or .u64 (Go.bits .and .u64 ((Go.bits .or .u64 (Go.bits .and .u64 (a0 / 2) 6148914691236517205) (IntKind.u64.wrap ((Go.bits .and .u64 a0 6148914691236517205) * 2))) / 4) 3689348814741910323) (IntKind.u64.wrap ((Go.bits .and .u64 (Go.bits .or .u64 (Go.bits .and .u64 (a0 / 2) 6148914691236517205) (IntKind.u64.wrap ((Go.bits .and .u64 a0 6148914691236517205) * 2))) 3689348814741910323) * 4))) / 16) 1085102592571150095) (IntKind.u64.wrap ((Go.bits .and .u64 (Go.bits .or .u64 (Go.bits .and .u64 ((Go.bits .or .u64 (Go.bits .and .u64 (a0 / 2) 6148914691236517205) (IntKind.u64.wrap ((Go.bits .and .u64 a0 6148914691236517205) * 2))) / 4) 3689348814741910323) (IntKind.u64.wrap ((Go.bits .and .u64 (Go.bits .or .u64 (Go.bits .and .u64 (a0 / 2) 6148914691236517205) (IntKind.u64.wrap ((Go.bits .and .u64 a0 6148914691236517205) * 2))) 3689348814741910323) * 4))) 1085102592571150095) * 16))) t143 _ A2.out).mono ?_); rintro e w' ⟨rfl, ⟨nd, rfl⟩⟩; refine ⟨_, rfl, ?_⟩))
  go_ret
  exact ⟨by first | rfl | (simp; done) | (simp [*]; done), by repeat (first | exact Drawn0.refl _ | apply Drawn0.step)⟩

/-! ### rev_turned: function 62 -/
def rev_turned.f (a0 : Int) (a1 : Int) : Option (Int) := (bits_Reverse64.f (IntKind.u64.wrap (a0))).bind fun t144 => (if 0 ≤ (IntKind.u64.wrap (wrap64 (63 - a1))) then (some (wrap64 (shr .u64 (t144 / 2) (IntKind.u64.wrap (wrap64 (63 - a1)))))) else (none))
set_option maxHeartbeats 8000000 in
set_option maxRecDepth 100000 in
theorem rev_turned.calls (a0 : Int) (a1 : Int) (r : Int) (w : World) (h : rev_turned.f a0 a1 = some r) :
    Calls Tryd.prog 62 #[.int .i64 a0, .int .i64 a1] w fun e w' => e = .returned (.int .i64 r) ∧ Drawn0 w w' := by
  have H : ((bits_Reverse64.f (IntKind.u64.wrap (a0))).bind fun t144 => (if 0 ≤ (IntKind.u64.wrap (wrap64 (63 - a1))) then (some (wrap64 (shr .u64 (t144 / 2) (IntKind.u64.wrap (wrap64 (63 - a1)))))) else (none))) = some r := h
  clear h
  replace H := Option.bind_eq_some_iff.mp H
  obtain ⟨t144, A30, H⟩ := H
  replace H : (if 0 ≤ (IntKind.u64.wrap (wrap64 (63 - a1))) then (some (wrap64 (shr .u64 (t144 / 2) (IntKind.u64.wrap (wrap64 (63 - a1)))))) else (none)) = some r := H
  have A3 := Aside0.mk A30
  clear A30
  obtain ⟨ji4, hji4⟩ : ∃ j_ : Int, (IntKind.u64.wrap (wrap64 (63 - a1))) = j_ := ⟨_, rfl⟩
  (try (have hji4w : (IntKind.u64.wrap (IntKind.i64.wrap (63 - a1))) = ji4 := by simpa only [i64_w] using hji4))
  replace H : (if 0 ≤ (ji4) then (some (wrap64 (shr .u64 (t144 / 2) (ji4)))) else (none)) = some r := by first | (rw [hji4] at H; exact H) | (simp only [hji4] at H ⊢; exact H)
  (try rw [hji4] at A3)
  by_cases c5 : 0 ≤ (ji4)
  · rw [if_pos c5] at H
    have c5b0 := eq_true c5
    have c5b1 : decide (0 ≤ (ji4)) = true := decide_eq_true c5
    clear c5
    obtain ⟨ji6, hji6⟩ : ∃ j_ : Int, (shr .u64 (t144 / 2) (ji4)) = j_ := ⟨_, rfl⟩
    replace H : (some (wrap64 (ji6))) = some r := by first | (rw [hji6] at H; exact H) | (simp only [hji6] at H ⊢; exact H)
    (try rw [hji6] at A3)
    have hji6_ : ((t144 / 2) / 2 ^ min (ji4).toNat 64) = ji6 := hji6
    have hji6z : (ji4) ≤ 64 → ((t144 / 2) / 2 ^ (ji4).toNat) = ji6 := shr_small hji6
    obtain rfl := Option.some.inj H
    go_enter Tryd.func62, Tryd.ntmps62
    go_wp2_with (first | ((with_reducible refine gate_callee (f := 70) rfl ?_); refine goesL_ (some 7) rfl rfl Tryd.func70 (by kernel_rfl) rfl #[.int .u64 (IntKind.u64.wrap (a0))] rfl (by (try simp only [List.map_toArray, List.map_cons, List.map_nil]); first | done | rfl | (simp only [List.length_drop, List.length_take]; rfl)) ?_; (with_reducible refine (bits_Reverse64.calls (IntKind.u64.wrap (a0)) t144 _ A3.out).mono ?_); rintro e w' ⟨rfl, ⟨nd, rfl⟩⟩; refine ⟨_, rfl, ?_⟩))
    go_ret
    exact ⟨by first | rfl | (simp; done) | (simp only [← hji4, ← hji6] <;> (first | rfl | simp)) | (simp [*]; done), by repeat (first | exact Drawn0.refl _ | apply Drawn0.step)⟩
  · rw [if_neg c5] at H
    exact absurd H (by simp)

-- NOT PRINTED: function 61 (rev_Turn_1)

/-! ### rev_Turn: function 45 (by hand) -/
/-- a place turned about, of so many bits -/
def hk_rv : Nat → Nat → Nat
  | 0, _ => 0
  | k + 1, i => i % 2 * 2 ^ k + hk_rv k (i / 2)
theorem hk_rv_all : ((List.range 11).all fun k => (List.range (2 ^ k)).all fun i => decide (rev_turned.f (i : Int) (k : Int) = some (hk_rv k i : Int))) = true := by decide +kernel
theorem hk_rv_lt : ∀ (k i : Nat), hk_rv k i < 2 ^ k
  | 0, _ => by unfold hk_rv; omega
  | k + 1, i => by
    unfold hk_rv
    have h := hk_rv_lt k (i / 2)
    rcases Nat.mod_two_eq_zero_or_one i with e | e
    · rw [e, Nat.pow_succ]; omega
    · rw [e, Nat.pow_succ]; omega
theorem hk_turned_eq {k i : Nat} (hk : k ≤ 10) (hi : i < 2 ^ k) : rev_turned.f (i : Int) (k : Int) = some (hk_rv k i : Int) :=
  of_decide_eq_true (List.all_eq_true.1 (List.all_eq_true.1 hk_rv_all k (List.mem_range.2 (by omega))) i (List.mem_range.2 hi))
set_option maxHeartbeats 8000000 in
set_option maxRecDepth 100000 in
theorem hk_turn1.calls (i k : Int) (r : Int) (b : Nat) (w : World) (hc : w.cell? ⟨b, 0, none⟩ = some (.int .i64 k)) (h : rev_turned.f i k = some r) :
    Calls Tryd.prog 61 #[.int .i64 i, .pointer (some ⟨b, 0, none⟩)] w fun e w' => e = .returned (.int .i64 r) ∧ Drawn0 w w' := by
  have H := Aside0.mk h
  clear h
  go_enter Tryd.func61, Tryd.ntmps61
  go_wp2_with ((go_at_call 62; (with_reducible refine (rev_turned.calls i k r _ H.out).mono ?_); rintro e w1 ⟨rfl, hb⟩))
  go_ret
  exact ⟨rfl, hb⟩
/-- A row whose words stand at other places: the first i of them. -/
def hk_mv (k : Nat) (l : List Int) : Nat → List Int
  | 0 => List.replicate l.length 0
  | i + 1 => (hk_mv k l i).set (hk_rv k i) (rd l (i : Int))
theorem hk_mv_length (k : Nat) (l : List Int) : ∀ i, (hk_mv k l i).length = l.length
  | 0 => by unfold hk_mv; exact List.length_replicate
  | i + 1 => by unfold hk_mv; rw [List.length_set]; exact hk_mv_length k l i
set_option maxHeartbeats 8000000 in
set_option maxRecDepth 100000 in
theorem rev_move.calls (k : Nat) (hk : k ≤ 10) (A0 : Option Addr) (c0 : Nat) (l0 : List Int) (b : Nat) (w : World) (hr0 : Kd.C (Kd.int .u64) w A0 l0.length l0) (hc0 : l0.length ≤ c0) (hl : l0.length = 2 ^ k) (hc : w.cell? ⟨b, 0, none⟩ = some (.int .i64 k)) :
    Calls Tryd.prog 60 #[.slice A0 l0.length c0, .func (.func 61) #[] #[.pointer (some ⟨b, 0, none⟩)]] w fun e w' => ∃ v0_ : Value, e = .returned (v0_) ∧ Kd.R (Kd.int .u64) 32 w' w.heap.size (fun _ => True) v0_ (hk_mv k l0 l0.length) ∧ Below w.heap.size w w' := by
  have HR0 := Aside0.mk hr0
  have HC0 := Aside0.mk hc0
  have HL := Aside0.mk hl
  have HC := Aside0.mk hc
  have HK := Aside0.mk hk
  have hn : l0.length ≤ 1024 := by rw [hl]; exact Nat.pow_le_pow_right (n := 2) (by omega) hk
  clear hr0 hc0 hl hc hk
  have HB := Aside0.mk (Below.refl w.heap.size w)
  go_enter Tryd.func60, Tryd.ntmps60
  go_wp2_with (first | ((with_reducible refine gate_dst (N := 10) rfl ?_); refine Kd.R_make (Kd.int .u64) _ 32 rfl (N := 10) rfl 22 _ _ rfl (l0.length : Int) rfl rfl Tryd.underlying22 (.int .u64 0) 8 info32 rfl (by decide) (by omega) 0 (ok := fun _ => True) (okp := fun _ => True) rfl (fun _ hk => hk) trivial (by omega) (by omega) (Below.refl _ _) (Nat.le_refl _) ?_; intro v175 w5 ho6 hb hg_ hnew_; clear hg_ hnew_; rw [Int.toNat_natCast] at ho6; have ho6 := Aside0.mk ho6; have hb := Aside0.mk hb))
  go_loopg [13] (l0.length) (fun kq v13 w' => ∃ (i : Nat), v13 = .int .i64 (i : Int) ∧ Aside0 (kq + i = l0.length) ∧ Aside0 (Kd.R (Kd.int .u64) 32 w' w.heap.size (fun _ => True) v175 (hk_mv k l0 i)) ∧ Aside0 (Below w.heap.size w w'))
  case atStart => exact ⟨0, by simp, ⟨by omega⟩, ho6, hb⟩
  case round =>
    obtain ⟨i, rfl, HI, HO, HB⟩ := hrel
    cases gk with
    | zero =>
      have hi := HI.out
      have c1 : decide ((i : Int) < (l0.length : Int)) = false := decide_eq_false (by omega)
      have e : i = l0.length := by omega
      clear hi
      go_wp2
      go_ret
      exact ⟨_, rfl, by rw [← e]; exact HO.out, HB.out⟩
    | succ k1 =>
      have hi := HI.out
      have c1 : decide ((i : Int) < (l0.length : Int)) = true := decide_eq_true (by omega)
      have hil : i < l0.length := by omega
      have HT := Aside0.mk (hk_turned_eq HK.out (show i < 2 ^ k by rw [← HL.out]; exact hil))
      obtain ⟨ad, e0, hx⟩ := Kd.at_int HR0.out (i : Int) (by omega) (by omega)
      cases e0
      have hx := (HB.out.cell (World.block_lt_of_cell? w _ hx)).trans hx
      rw [Int.toNat_natCast] at hx
      have hc := (HB.out.cell (World.block_lt_of_cell? w _ HC.out)).trans HC.out
      have h0 : (0 ≤ (i : Int)) = True := eq_true (by omega)
      have h1 : ((i : Int) < (l0.length : Int)) = True := eq_true (by omega)
      have hrv := hk_rv_lt k i
      rw [← HL.out] at hrv
      have hml := hk_mv_length k l0 i
      have q0 : (0 ≤ (hk_rv k i : Int)) = True := eq_true (by omega)
      have q1 : ((hk_rv k i : Int) < (l0.length : Int)) = True := eq_true (by omega)
      obtain ⟨g, co, eo, gb, gl, cl, hG⟩ := Kd.R_form HO.out (by omega)
      rw [hml] at eo
      subst eo
      obtain ⟨hx2, hf2⟩ := Kd.R_celln 0 HO.out (hk_rv k i : Int) (by omega) (by omega)
      rw [Int.toNat_natCast] at hx2 hf2
      have GB := Aside0.mk gb
      have GG := Aside0.mk hG
      have HRV := Aside0.mk hrv
      have HML := Aside0.mk hml
      clear gb gl hG hi hil hrv hml
      go_wp2_with ((go_at_call 61; (with_reducible refine (hk_turn1.calls i k _ b _ hc HT.out).mono ?_); rintro e w1 ⟨rfl, hb1⟩; obtain ⟨nd, rfl⟩ := hb1.out; clear hb1))
      have HP := Aside0.mk (Kd.R_putn (Kd.R_drewN HO.out nd) (hk_rv k i : Int) (rd l0 (i : Int)))
      have HB2 := Aside0.mk (below_set (pw_below_drewN HB.out nd) GB.out (j := hk_rv k i) (v := .int .u64 (rd l0 (i : Int))))
      rw [Int.toNat_natCast] at HP
      generalize (wr.drewN nd).setCell ⟨g, hk_rv k i, none⟩ (.int .u64 (rd l0 (i : Int))) = w9 at HP HB2 ⊢
      clear hx2 hf2 h0 h1 q0 q1 c1 hx hc
      go_roundg k1
      case measure => omega
      case rel => exact ⟨i + 1, (by rw [show wrap64 ((i : Int) + 1) = ((i + 1 : Nat) : Int) by have := HI.out; unfold wrap64; omega]), ⟨by have := HI.out; omega⟩, HP, HB2⟩
set_option maxHeartbeats 8000000 in
set_option maxRecDepth 100000 in
theorem rev_Turn.calls (k : Nat) (hk : k ≤ 10) (A0 : Option Addr) (c0 : Nat) (l0 : List Int) (w : World) (hG : Aside0 (TzTab w)) (hr0 : Kd.C (Kd.int .u64) w A0 l0.length l0) (hc0 : l0.length ≤ c0) (hl : l0.length = 2 ^ k) (hf : root_Fits.f ((l0.length : Nat) : Int) = some ((k : Int), true)) :
    Calls Tryd.prog 45 #[.slice A0 l0.length c0] w fun e w' => ∃ v0_ : Value, e = .returned (.tuple #[v0_, .int .i64 0]) ∧ Kd.R (Kd.int .u64) 32 w' w.heap.size (fun _ => True) v0_ (hk_mv k l0 l0.length) ∧ Below w.heap.size w w' := by
  have HR0 := Aside0.mk hr0
  have HC0 := Aside0.mk hc0
  have HL := Aside0.mk hl
  have HK := Aside0.mk hk
  have HF := Aside0.mk hf
  clear hr0 hc0 hl hk hf
  go_enter Tryd.func45, Tryd.ntmps45
  go_wp2_with (first | (go_at_call 30; (with_reducible refine (root_Fits.calls (l0.length : Int) k true _ hG HF.out).mono ?_); rintro e w1 ⟨rfl, hb1⟩) | (go_at_call 60; (with_reducible refine (rev_move.calls k HK.out A0 c0 l0 _ _ ?vr HC0.out HL.out ?vc).mono ?_); (case vr => exact Kd.C_below HR0.out (by obtain ⟨nd, hb1⟩ := hb1.out; subst hb1; exact (pw_below_drewN (Below.refl _ _) nd).alloc (Nat.le_refl _) _)); (case vc => simp); rintro e w2 ⟨v, rfl, hR2, hB2⟩; obtain ⟨A_, c_, rfl⟩ := Kd.R_slice hR2; have HR2 := Aside0.mk hR2; have HB2 := Aside0.mk hB2; clear hR2 hB2))
  have hB1 : Below w.heap.size w (w1.alloc (.cells #[.int .i64 k] 3)) := by
    obtain ⟨nd, hb1⟩ := hb1.out; subst hb1; exact (pw_below_drewN (Below.refl _ _) nd).alloc (Nat.le_refl _) _
  have HB1 := Aside0.mk hB1
  clear hB1
  go_ret2
  exact ⟨_, rfl, Kd.R_lower HR2.out HB1.out.size, HB1.out.trans (HB2.out.mono HB1.out.size)⟩

/-! ### bits_Add64: function 66 (the model's own entry) -/
def bits_Add64.f (a0 : Int) (a1 : Int) (a2 : Int) : Option (Int × Int) := if 0 ≤ a0 then (if 0 ≤ a1 then (if 0 ≤ a2 then (if a2 ≤ 1 then (some ((a0 + a1 + a2) % 18446744073709551616, (a0 + a1 + a2) / 18446744073709551616)) else none) else none) else none) else none
theorem bits_Add64.run (a0 : Int) (a1 : Int) (a2 : Int) (r1 : Int) (r2 : Int) (w : World) (h : bits_Add64.f a0 a1 a2 = some (r1, r2)) :
    (callFunc 66 #[.int .u64 a0, .int .u64 a1, .int .u64 a2]).run Tryd.prog w = .ok (.value (.tuple #[.int .u64 r1, .int .u64 r2])) w := by
  unfold bits_Add64.f at h
  by_cases h0 : 0 ≤ a0
  · by_cases h1 : 0 ≤ a1
    · by_cases h2 : 0 ≤ a2
      · by_cases h3 : a2 ≤ 1
        · rw [if_pos h0, if_pos h1, if_pos h2, if_pos h3] at h
          simp only [Option.some.injEq, Prod.mk.injEq] at h
          obtain ⟨rfl, rfl⟩ := h
          rw [run_callFunc_extern Tryd.func66 (by kernel_rfl) (by kernel_rfl) (by kernel_rfl) (e := add64Entry) (by kernel_rfl), run_add64 a0 a1 a2 h0 h1 h2 h3]
          rfl
        · rw [if_pos h0, if_pos h1, if_pos h2, if_neg h3] at h; cases h
      · rw [if_pos h0, if_pos h1, if_neg h2] at h; cases h
    · rw [if_pos h0, if_neg h1] at h; cases h
  · rw [if_neg h0] at h; cases h

/-! ### wide_Add: function 55 -/
def wide_Add.f (a0_0 : Int) (a0_1 : Int) (a1_0 : Int) (a1_1 : Int) : Option (Int × Int × Int) := (bits_Add64.f a0_1 a1_1 0).bind fun bt148 => ((bits_Add64.f a0_0 a1_0 bt148.2).bind fun bt150 => (some (bt150.1, bt148.1, bt150.2)))
set_option maxHeartbeats 8000000 in
set_option maxRecDepth 100000 in
theorem wide_Add.calls (a0_0 : Int) (a0_1 : Int) (a1_0 : Int) (a1_1 : Int) (r1 : Int) (r2 : Int) (r3 : Int) (w : World) (h : wide_Add.f a0_0 a0_1 a1_0 a1_1 = some (r1, r2, r3)) :
    Calls Tryd.prog 55 #[.agg #[.int .u64 a0_0, .int .u64 a0_1], .agg #[.int .u64 a1_0, .int .u64 a1_1]] w fun e w' => e = .returned (.tuple #[.agg #[.int .u64 r1, .int .u64 r2], .int .u64 r3]) ∧ Below w.heap.size w w' := by
  have hu78 := Tryd.underlying78
  have HB := Aside0.mk (Below.refl w.heap.size w)
  have H : ((bits_Add64.f a0_1 a1_1 0).bind fun bt148 => ((bits_Add64.f a0_0 a1_0 bt148.2).bind fun bt150 => (some (bt150.1, bt148.1, bt150.2)))) = some (r1, r2, r3) := h
  clear h
  replace H := Option.bind_eq_some_iff.mp H
  obtain ⟨⟨t148, t149⟩, A30, H⟩ := H
  replace H : ((bits_Add64.f a0_0 a1_0 t149).bind fun bt150 => (some (bt150.1, t148, bt150.2))) = some (r1, r2, r3) := H
  have A3 := Aside0.mk A30
  clear A30
  replace H := Option.bind_eq_some_iff.mp H
  obtain ⟨⟨t150, t151⟩, A40, H⟩ := H
  replace H : (some (t150, t148, t151)) = some (r1, r2, r3) := H
  have A4 := Aside0.mk A40
  clear A40
  simp only [Option.some.injEq, Prod.mk.injEq] at H
  obtain ⟨rfl, rfl, rfl⟩ := H
  go_enter Tryd.func55, Tryd.ntmps55
  go_wp2_with (first | ((with_reducible refine gate_dst (N := 2) rfl ?_); refine box_event ?hg (N := 2) ?hd (cs := #[.int .u64 a0_0, .int .u64 a0_1]) (t := 78) ?hr ?_; (case hd => rfl); (case hg => rfl); (case hr => first | (go_simp; done) | (go_simp; rfl)); intro gb145 hg w5 hbox hb; have n0_ := Aside0.mk (below_step (by repeat (first | (with_reducible first | exact HB.out | apply below_alloc | apply pw_below_drewN | apply below_drew1) | exact HB.out)) hb); have n1_ := Aside0.mk (hbox); have n2_ := Aside0.mk ((by rw [hg]; exact (below_size (by repeat (first | (with_reducible first | exact HB.out | apply below_alloc | apply pw_below_drewN | apply below_drew1) | exact HB.out))) : w.heap.size ≤ gb145)); have n3_ := Aside0.mk ((by rw [hg]; exact (below_size (by repeat (first | (with_reducible first | exact HB.out | apply below_alloc | apply pw_below_drewN | apply below_drew1) | exact HB.out))) : w.heap.size ≤ gb145)); clear HB; have HB := n0_; have BK145 := n1_; have GW145 := n2_; have GE145 := n3_; clear n0_ n1_ n2_ n3_; clear hb hbox hg) | ((with_reducible refine gate_dst (N := 3) rfl ?_); refine box_event ?hg (N := 3) ?hd (cs := #[.int .u64 a1_0, .int .u64 a1_1]) (t := 78) ?hr ?_; (case hd => rfl); (case hg => rfl); (case hr => first | (go_simp; done) | (go_simp; rfl)); intro gb146 hg w6 hbox hb; have n0_ := Aside0.mk (blk_below (g := gb145) (o := .cells #[.int .u64 a0_0, .int .u64 a0_1] 78 (0, 0)) (by (with_reducible repeat (first | refine blk_drewN ?_ _ | refine blk_drew ?_ | refine blk_alloc ?_ _)); exact BK145.out) hb); have n1_ := Aside0.mk (below_step (by repeat (first | (with_reducible first | exact HB.out | apply below_alloc | apply pw_below_drewN | apply below_drew1 | refine below_set ?_ GE145.out) | exact HB.out)) hb); have n2_ := Aside0.mk (hbox); have n3_ := Aside0.mk ((by rw [hg]; exact (below_size (by repeat (first | (with_reducible first | exact HB.out | apply below_alloc | apply pw_below_drewN | apply below_drew1 | refine below_set ?_ GE145.out) | exact HB.out))) : w.heap.size ≤ gb146)); have n4_ := Aside0.mk ((by rw [hg]; exact (below_size (by repeat (first | (with_reducible first | exact HB.out | apply below_alloc | apply pw_below_drewN | apply below_drew1 | refine below_set ?_ GE145.out) | exact HB.out))) : w.heap.size ≤ gb146)); have n5_ := Aside0.mk ((by rw [hg]; exact Nat.ne_of_lt (blk_lt (g := gb145) (o := .cells #[.int .u64 a0_0, .int .u64 a0_1] 78 (0, 0)) (by (with_reducible repeat (first | refine blk_drewN ?_ _ | refine blk_drew ?_ | refine blk_alloc ?_ _)); exact BK145.out)) : gb145 ≠ gb146)); have n6_ := Aside0.mk ((by rw [hg]; exact Nat.ne_of_gt (blk_lt (g := gb145) (o := .cells #[.int .u64 a0_0, .int .u64 a0_1] 78 (0, 0)) (by (with_reducible repeat (first | refine blk_drewN ?_ _ | refine blk_drew ?_ | refine blk_alloc ?_ _)); exact BK145.out)) : gb146 ≠ gb145)); clear BK145; clear HB; have BK145 := n0_; have HB := n1_; have BK146 := n2_; have GW146 := n3_; have GE146 := n4_; have NB145_146 := n5_; have NB146_145 := n6_; clear n0_ n1_ n2_ n3_ n4_ n5_ n6_; clear hb hbox hg) | ((with_reducible refine gate_dst (N := 4) rfl ?_); refine box_event ?hg (N := 4) ?hd (cs := #[.int .u64 0, .int .u64 0]) (t := 78) ?hr ?_; (case hd => rfl); (case hg => rfl); (case hr => first | (go_simp; done) | (go_simp; rfl)); intro gb147 hg w7 hbox hb; have n0_ := Aside0.mk (blk_below (g := gb145) (o := .cells #[.int .u64 a0_0, .int .u64 a0_1] 78 (0, 0)) (by (with_reducible repeat (first | refine blk_drewN ?_ _ | refine blk_drew ?_ | refine blk_alloc ?_ _)); exact BK145.out) hb); have n1_ := Aside0.mk (blk_below (g := gb146) (o := .cells #[.int .u64 a1_0, .int .u64 a1_1] 78 (0, 0)) (by (with_reducible repeat (first | refine blk_drewN ?_ _ | refine blk_drew ?_ | refine blk_alloc ?_ _)); exact BK146.out) hb); have n2_ := Aside0.mk (below_step (by repeat (first | (with_reducible first | exact HB.out | apply below_alloc | apply pw_below_drewN | apply below_drew1 | refine below_set ?_ GE145.out | refine below_set ?_ GE146.out) | exact HB.out)) hb); have n3_ := Aside0.mk (hbox); have n4_ := Aside0.mk ((by rw [hg]; exact (below_size (by repeat (first | (with_reducible first | exact HB.out | apply below_alloc | apply pw_below_drewN | apply below_drew1 | refine below_set ?_ GE145.out | refine below_set ?_ GE146.out) | exact HB.out))) : w.heap.size ≤ gb147)); have n5_ := Aside0.mk ((by rw [hg]; exact (below_size (by repeat (first | (with_reducible first | exact HB.out | apply below_alloc | apply pw_below_drewN | apply below_drew1 | refine below_set ?_ GE145.out | refine below_set ?_ GE146.out) | exact HB.out))) : w.heap.size ≤ gb147)); have n6_ := Aside0.mk ((by rw [hg]; exact Nat.ne_of_lt (blk_lt (g := gb145) (o := .cells #[.int .u64 a0_0, .int .u64 a0_1] 78 (0, 0)) (by (with_reducible repeat (first | refine blk_drewN ?_ _ | refine blk_drew ?_ | refine blk_alloc ?_ _)); exact BK145.out)) : gb145 ≠ gb147)); have n7_ := Aside0.mk ((by rw [hg]; exact Nat.ne_of_gt (blk_lt (g := gb145) (o := .cells #[.int .u64 a0_0, .int .u64 a0_1] 78 (0, 0)) (by (with_reducible repeat (first | refine blk_drewN ?_ _ | refine blk_drew ?_ | refine blk_alloc ?_ _)); exact BK145.out)) : gb147 ≠ gb145)); have n8_ := Aside0.mk ((by rw [hg]; exact Nat.ne_of_lt (blk_lt (g := gb146) (o := .cells #[.int .u64 a1_0, .int .u64 a1_1] 78 (0, 0)) (by (with_reducible repeat (first | refine blk_drewN ?_ _ | refine blk_drew ?_ | refine blk_alloc ?_ _)); exact BK146.out)) : gb146 ≠ gb147)); have n9_ := Aside0.mk ((by rw [hg]; exact Nat.ne_of_gt (blk_lt (g := gb146) (o := .cells #[.int .u64 a1_0, .int .u64 a1_1] 78 (0, 0)) (by (with_reducible repeat (first | refine blk_drewN ?_ _ | refine blk_drew ?_ | refine blk_alloc ?_ _)); exact BK146.out)) : gb147 ≠ gb146)); clear BK145; clear BK146; clear HB; have BK145 := n0_; have BK146 := n1_; have HB := n2_; have BK147 := n3_; have GW147 := n4_; have GE147 := n5_; have NB145_147 := n6_; have NB147_145 := n7_; have NB146_147 := n8_; have NB147_146 := n9_; clear n0_ n1_ n2_ n3_ n4_ n5_ n6_ n7_ n8_ n9_; clear hb hbox hg; have hnb8 := NB145_146.out; have hnc8 := NB146_145.out; have hnb9 := NB145_147.out; have hnc9 := NB147_145.out; have hcz10_0 : w7.cell? ⟨gb145, 0, none⟩ = some (.int .u64 a0_0) := (blk_cell BK145.out 0).trans rfl; have hcz10_1 : w7.cell? ⟨gb145, 1, none⟩ = some (.int .u64 a0_1) := (blk_cell BK145.out 1).trans rfl; have hfz10_0 := blk_frozen BK145.out 0; have hfz10_1 := blk_frozen BK145.out 1; have hnb11 := NB146_147.out; have hnc11 := NB147_146.out; have hcz12_0 : w7.cell? ⟨gb146, 0, none⟩ = some (.int .u64 a1_0) := (blk_cell BK146.out 0).trans rfl; have hcz12_1 : w7.cell? ⟨gb146, 1, none⟩ = some (.int .u64 a1_1) := (blk_cell BK146.out 1).trans rfl; have hfz12_0 := blk_frozen BK146.out 0; have hfz12_1 := blk_frozen BK146.out 1) | (simp only [bits_Add64.run a0_1 a1_1 0 t148 t149 _ A3.out]; (try (rw [drewN_self w7]; generalize hq_ : World.drewN w7 _ = w7; have n0_ : Aside0 (w7.heap[gb145]? = some (.cells #[.int .u64 a0_0, .int .u64 a0_1] 78 (0, 0))) := ⟨by rw [← hq_]; exact (by (with_reducible repeat (first | refine blk_drewN ?_ _ | refine blk_drew ?_ | refine blk_alloc ?_ _)); exact BK145.out)⟩; have n1_ : Aside0 (w7.heap[gb146]? = some (.cells #[.int .u64 a1_0, .int .u64 a1_1] 78 (0, 0))) := ⟨by rw [← hq_]; exact (by (with_reducible repeat (first | refine blk_drewN ?_ _ | refine blk_drew ?_ | refine blk_alloc ?_ _)); exact BK146.out)⟩; have n2_ : Aside0 (w7.heap[gb147]? = some (.cells #[.int .u64 0, .int .u64 0] 78 (0, 0))) := ⟨by rw [← hq_]; exact (by (with_reducible repeat (first | refine blk_drewN ?_ _ | refine blk_drew ?_ | refine blk_alloc ?_ _)); exact BK147.out)⟩; have n3_ : Aside0 (Below w.heap.size w w7) := ⟨by rw [← hq_]; exact (by repeat (first | (with_reducible first | exact HB.out | apply below_alloc | apply pw_below_drewN | apply below_drew1 | refine below_set ?_ GE145.out | refine below_set ?_ GE146.out | refine below_set ?_ GE147.out) | exact HB.out))⟩; clear BK145 BK146 BK147 HB hq_; have BK145 := n0_; have BK146 := n1_; have BK147 := n2_; have HB := n3_; clear n0_ n1_ n2_ n3_)); have hcz13_0 : w7.cell? ⟨gb147, 0, none⟩ = some (.int .u64 0) := (blk_cell BK147.out 0).trans rfl; have hcz13_1 : w7.cell? ⟨gb147, 1, none⟩ = some (.int .u64 0) := (blk_cell BK147.out 1).trans rfl; have hfz13_0 := blk_frozen BK147.out 0; have hfz13_1 := blk_frozen BK147.out 1) | (simp only [bits_Add64.run a0_0 a1_0 t149 t150 t151 _ A4.out]))
  refine bodyPost_ret (results_ct rfl _ _ gb147 78 #[.int .u64 t150, .int .u64 t148] (0, 0) _ rfl (by (with_reducible repeat (first | refine blk_drewN ?_ _ | refine blk_drew ?_ | refine blk_alloc ?_ _)); refine blk_put (cs := #[.int .u64 t150, .int .u64 t148]) ?_ 1 _ rfl; (with_reducible repeat (first | refine blk_drewN ?_ _ | refine blk_drew ?_ | refine blk_alloc ?_ _)); refine blk_put (cs := #[.int .u64 t150, .int .u64 t148]) ?_ 0 _ rfl; (with_reducible repeat (first | refine blk_drewN ?_ _ | refine blk_drew ?_ | refine blk_alloc ?_ _)); refine blk_put (cs := #[.int .u64 0, .int .u64 t148]) ?_ 0 _ rfl; (with_reducible repeat (first | refine blk_drewN ?_ _ | refine blk_drew ?_ | refine blk_alloc ?_ _)); refine blk_put (cs := #[.int .u64 0, .int .u64 0]) ?_ 1 _ rfl; (with_reducible repeat (first | refine blk_drewN ?_ _ | refine blk_drew ?_ | refine blk_alloc ?_ _)); exact BK147.out) Tryd.underlying78 rfl (by kernel_rfl)) rfl ?_
  exact ⟨by first | rfl | (simp [errW_none, errW_some] <;> rfl) | (simp [*, errW_none, errW_some] <;> rfl), by repeat (first | (with_reducible first | exact HB.out | apply below_alloc | apply pw_below_drewN | apply below_drew1 | refine below_set ?_ GE145.out | refine below_set ?_ GE146.out | refine below_set ?_ GE147.out) | exact HB.out)⟩

/-! ### gold_Add: function 39 -/
def gold_Add.f (a0 : Int) (a1 : Int) : Option (Int) := (gold_Of.f a0).bind fun t152 => ((gold_Of.f a1).bind fun t153 => ((wide_Add.f 0 t152 0 t153).bind fun bt154 => ((gold_Reduce.f bt154.1 bt154.2.1).bind fun t158 => (some t158))))
set_option maxHeartbeats 8000000 in
set_option maxRecDepth 100000 in
theorem gold_Add.calls (a0 : Int) (a1 : Int) (r : Int) (w : World) (h : gold_Add.f a0 a1 = some r) :
    Calls Tryd.prog 39 #[.int .u64 a0, .int .u64 a1] w fun e w' => e = .returned (.int .u64 r) ∧ Below w.heap.size w w' := by
  have hu78 := Tryd.underlying78
  have HB := Aside0.mk (Below.refl w.heap.size w)
  have H : ((gold_Of.f a0).bind fun t152 => ((gold_Of.f a1).bind fun t153 => ((wide_Add.f 0 t152 0 t153).bind fun bt154 => ((gold_Reduce.f bt154.1 bt154.2.1).bind fun t158 => (some t158))))) = some r := h
  clear h
  replace H := Option.bind_eq_some_iff.mp H
  obtain ⟨t152, A30, H⟩ := H
  replace H : ((gold_Of.f a1).bind fun t153 => ((wide_Add.f 0 t152 0 t153).bind fun bt154 => ((gold_Reduce.f bt154.1 bt154.2.1).bind fun t158 => (some t158)))) = some r := H
  have A3 := Aside0.mk A30
  clear A30
  replace H := Option.bind_eq_some_iff.mp H
  obtain ⟨t153, A40, H⟩ := H
  replace H : ((wide_Add.f 0 t152 0 t153).bind fun bt154 => ((gold_Reduce.f bt154.1 bt154.2.1).bind fun t158 => (some t158))) = some r := H
  have A4 := Aside0.mk A40
  clear A40
  replace H := Option.bind_eq_some_iff.mp H
  obtain ⟨⟨t154, t155, t156⟩, A50, H⟩ := H
  replace H : ((gold_Reduce.f t154 t155).bind fun t158 => (some t158)) = some r := H
  have A5 := Aside0.mk A50
  clear A50
  replace H := Option.bind_eq_some_iff.mp H
  obtain ⟨t158, A60, H⟩ := H
  replace H : (some t158) = some r := H
  have A6 := Aside0.mk A60
  clear A60
  obtain rfl := Option.some.inj H
  go_enter Tryd.func39, Tryd.ntmps39
  go_wp2_with (first | ((with_reducible refine gate_callee (f := 46) rfl ?_); refine goesL_ (some 9) rfl rfl Tryd.func46 (by kernel_rfl) rfl #[.int .u64 a0] rfl (by (try simp only [List.map_toArray, List.map_cons, List.map_nil]); first | done | rfl | (simp only [List.length_drop, List.length_take]; rfl)) ?_; (with_reducible refine (gold_Of.calls a0 t152 _ A3.out).mono ?_); rintro e w' ⟨rfl, ⟨nd, rfl⟩⟩; refine ⟨_, rfl, ?_⟩) | ((with_reducible refine gate_callee (f := 46) rfl ?_); refine goesL_ (some 12) rfl rfl Tryd.func46 (by kernel_rfl) rfl #[.int .u64 a1] rfl (by (try simp only [List.map_toArray, List.map_cons, List.map_nil]); first | done | rfl | (simp only [List.length_drop, List.length_take]; rfl)) ?_; (with_reducible refine (gold_Of.calls a1 t153 _ A4.out).mono ?_); rintro e w' ⟨rfl, ⟨nd, rfl⟩⟩; refine ⟨_, rfl, ?_⟩) | ((with_reducible refine gate_callee (f := 55) rfl ?_); refine goesL_ (some 14) rfl rfl Tryd.func55 (by kernel_rfl) rfl #[.agg #[.int .u64 0, .int .u64 t152], .agg #[.int .u64 0, .int .u64 t153]] rfl (by (try simp only [List.map_toArray, List.map_cons, List.map_nil]); first | done | rfl | (simp only [List.length_drop, List.length_take]; rfl)) ?_; (with_reducible refine (wide_Add.calls 0 t152 0 t153 t154 t155 t156 _ A5.out).mono ?_); rintro e w7 ⟨rfl, hb⟩; refine ⟨_, rfl, ?_⟩; have n0_ := Aside0.mk (below_step (by repeat (first | (with_reducible first | exact HB.out | apply below_alloc | apply pw_below_drewN | apply below_drew1) | exact HB.out)) hb); clear HB; have HB := n0_; clear n0_; (try clear hb); (try clear hb2); (try clear hk); (try clear hi)) | ((with_reducible refine gate_dst (N := 5) rfl ?_); refine box_event ?hg (N := 5) ?hd (cs := #[.int .u64 0, .int .u64 0]) (t := 78) ?hr ?_; (case hd => rfl); (case hg => rfl); (case hr => first | (go_simp; done) | (go_simp; rfl)); intro gb157 hg w8 hbox hb; have n0_ := Aside0.mk (below_step (by repeat (first | (with_reducible first | exact HB.out | apply below_alloc | apply pw_below_drewN | apply below_drew1) | exact HB.out)) hb); have n1_ := Aside0.mk (hbox); have n2_ := Aside0.mk ((by rw [hg]; exact (below_size (by repeat (first | (with_reducible first | exact HB.out | apply below_alloc | apply pw_below_drewN | apply below_drew1) | exact HB.out))) : w.heap.size ≤ gb157)); have n3_ := Aside0.mk ((by rw [hg]; exact (below_size (by repeat (first | (with_reducible first | exact HB.out | apply below_alloc | apply pw_below_drewN | apply below_drew1) | exact HB.out))) : w.heap.size ≤ gb157)); clear HB; have HB := n0_; have BK157 := n1_; have GW157 := n2_; have GE157 := n3_; clear n0_ n1_ n2_ n3_; clear hb hbox hg; have hcz9_0 : w8.cell? ⟨gb157, 0, none⟩ = some (.int .u64 0) := (blk_cell BK157.out 0).trans rfl; have hcz9_1 : w8.cell? ⟨gb157, 1, none⟩ = some (.int .u64 0) := (blk_cell BK157.out 1).trans rfl; have hfz9_0 := blk_frozen BK157.out 0; have hfz9_1 := blk_frozen BK157.out 1) | ((with_reducible refine gate_callee (f := 53) rfl ?_); refine goesL_ (some 18) rfl rfl Tryd.func53 (by kernel_rfl) rfl #[.agg #[.int .u64 t154, .int .u64 t155]] rfl (by (try simp only [List.map_toArray, List.map_cons, List.map_nil]); first | done | rfl | (simp only [List.length_drop, List.length_take]; rfl)) ?_; (with_reducible refine (gold_Reduce.calls t154 t155 t158 _ A6.out).mono ?_); rintro e w10 ⟨rfl, hb⟩; refine ⟨_, rfl, ?_⟩; have n0_ := Aside0.mk (blk_below (g := gb157) (o := .cells #[.int .u64 t154, .int .u64 t155] 78 (0, 0)) (by (with_reducible repeat (first | refine blk_drewN ?_ _ | refine blk_drew ?_ | refine blk_alloc ?_ _)); refine blk_put (cs := #[.int .u64 t154, .int .u64 0]) ?_ 1 _ rfl; (with_reducible repeat (first | refine blk_drewN ?_ _ | refine blk_drew ?_ | refine blk_alloc ?_ _)); refine blk_put (cs := #[.int .u64 0, .int .u64 0]) ?_ 0 _ rfl; (with_reducible repeat (first | refine blk_drewN ?_ _ | refine blk_drew ?_ | refine blk_alloc ?_ _)); exact BK157.out) hb); have n1_ := Aside0.mk (below_step (by repeat (first | (with_reducible first | exact HB.out | apply below_alloc | apply pw_below_drewN | apply below_drew1 | refine below_set ?_ GE157.out) | exact HB.out)) hb); clear BK157; clear HB; have BK157 := n0_; have HB := n1_; clear n0_ n1_; (try clear hb); (try clear hb2); (try clear hk); (try clear hi)))
  go_ret
  exact ⟨by first | rfl | (simp [errW_none, errW_some] <;> rfl) | (simp [*, errW_none, errW_some] <;> rfl), by repeat (first | (with_reducible first | exact HB.out | apply below_alloc | apply pw_below_drewN | apply below_drew1 | refine below_set ?_ GE157.out) | exact HB.out)⟩

/-! ### gold_Neg: function 56 -/
def gold_Neg.f (a0 : Int) : Option (Int) := (gold_Of.f a0).bind fun t159 => (if t159 = 0 then (some 0) else (some (IntKind.u64.wrap (18446744069414584321 - t159))))
set_option maxHeartbeats 8000000 in
set_option maxRecDepth 100000 in
theorem gold_Neg.calls (a0 : Int) (r : Int) (w : World) (h : gold_Neg.f a0 = some r) :
    Calls Tryd.prog 56 #[.int .u64 a0] w fun e w' => e = .returned (.int .u64 r) ∧ Drawn0 w w' := by
  have H : ((gold_Of.f a0).bind fun t159 => (if t159 = 0 then (some 0) else (some (IntKind.u64.wrap (18446744069414584321 - t159))))) = some r := h
  clear h
  replace H := Option.bind_eq_some_iff.mp H
  obtain ⟨t159, A20, H⟩ := H
  replace H : (if t159 = 0 then (some 0) else (some (IntKind.u64.wrap (18446744069414584321 - t159)))) = some r := H
  have A2 := Aside0.mk A20
  clear A20
  by_cases c3 : t159 = 0
  · rw [if_pos c3] at H
    have c3b0 : (t159 == 0) = true := beq_iff_eq.mpr c3
    have c3b1 : (t159 != 0) = false := bne_eq_false_iff_eq.mpr c3
    clear c3
    obtain rfl := Option.some.inj H
    go_enter Tryd.func56, Tryd.ntmps56
    go_wp2_with (first | ((with_reducible refine gate_callee (f := 46) rfl ?_); refine goesL_ (some 4) rfl rfl Tryd.func46 (by kernel_rfl) rfl #[.int .u64 a0] rfl (by (try simp only [List.map_toArray, List.map_cons, List.map_nil]); first | done | rfl | (simp only [List.length_drop, List.length_take]; rfl)) ?_; (with_reducible refine (gold_Of.calls a0 t159 _ A2.out).mono ?_); rintro e w' ⟨rfl, ⟨nd, rfl⟩⟩; refine ⟨_, rfl, ?_⟩))
    go_ret
    exact ⟨by first | rfl | (simp; done) | (simp [*]; done), by repeat (first | exact Drawn0.refl _ | apply Drawn0.step)⟩
  · rw [if_neg c3] at H
    have c3b0 : (t159 == 0) = false := beq_eq_false_iff_ne.mpr c3
    have c3b1 : (t159 != 0) = true := bne_iff_ne.mpr c3
    obtain rfl := Option.some.inj H
    go_enter Tryd.func56, Tryd.ntmps56
    go_wp2_with (first | ((with_reducible refine gate_callee (f := 46) rfl ?_); refine goesL_ (some 4) rfl rfl Tryd.func46 (by kernel_rfl) rfl #[.int .u64 a0] rfl (by (try simp only [List.map_toArray, List.map_cons, List.map_nil]); first | done | rfl | (simp only [List.length_drop, List.length_take]; rfl)) ?_; (with_reducible refine (gold_Of.calls a0 t159 _ A2.out).mono ?_); rintro e w' ⟨rfl, ⟨nd, rfl⟩⟩; refine ⟨_, rfl, ?_⟩))
    go_ret
    exact ⟨by first | rfl | (simp; done) | (simp [*]; done), by repeat (first | exact Drawn0.refl _ | apply Drawn0.step)⟩

/-! ### gold_Sub: function 40 -/
def gold_Sub.f (a0 : Int) (a1 : Int) : Option (Int) := (gold_Neg.f a1).bind fun t160 => ((gold_Add.f a0 t160).bind fun t161 => (some t161))
set_option maxHeartbeats 8000000 in
set_option maxRecDepth 100000 in
theorem gold_Sub.calls (a0 : Int) (a1 : Int) (r : Int) (w : World) (h : gold_Sub.f a0 a1 = some r) :
    Calls Tryd.prog 40 #[.int .u64 a0, .int .u64 a1] w fun e w' => e = .returned (.int .u64 r) ∧ Below w.heap.size w w' := by
  have HB := Aside0.mk (Below.refl w.heap.size w)
  have H : ((gold_Neg.f a1).bind fun t160 => ((gold_Add.f a0 t160).bind fun t161 => (some t161))) = some r := h
  clear h
  replace H := Option.bind_eq_some_iff.mp H
  obtain ⟨t160, A30, H⟩ := H
  replace H : ((gold_Add.f a0 t160).bind fun t161 => (some t161)) = some r := H
  have A3 := Aside0.mk A30
  clear A30
  replace H := Option.bind_eq_some_iff.mp H
  obtain ⟨t161, A40, H⟩ := H
  replace H : (some t161) = some r := H
  have A4 := Aside0.mk A40
  clear A40
  obtain rfl := Option.some.inj H
  go_enter Tryd.func40, Tryd.ntmps40
  go_wp2_with (first | ((with_reducible refine gate_callee (f := 56) rfl ?_); refine goesL_ (some 7) rfl rfl Tryd.func56 (by kernel_rfl) rfl #[.int .u64 a1] rfl (by (try simp only [List.map_toArray, List.map_cons, List.map_nil]); first | done | rfl | (simp only [List.length_drop, List.length_take]; rfl)) ?_; (with_reducible refine (gold_Neg.calls a1 t160 _ A3.out).mono ?_); rintro e w' ⟨rfl, ⟨nd, rfl⟩⟩; refine ⟨_, rfl, ?_⟩) | ((with_reducible refine gate_callee (f := 39) rfl ?_); refine goesL_ (some 8) rfl rfl Tryd.func39 (by kernel_rfl) rfl #[.int .u64 a0, .int .u64 t160] rfl (by (try simp only [List.map_toArray, List.map_cons, List.map_nil]); first | done | rfl | (simp only [List.length_drop, List.length_take]; rfl)) ?_; (with_reducible refine (gold_Add.calls a0 t160 t161 _ A4.out).mono ?_); rintro e w5 ⟨rfl, hb⟩; refine ⟨_, rfl, ?_⟩; have n0_ := Aside0.mk (below_step (by repeat (first | (with_reducible first | exact HB.out | apply below_alloc | apply pw_below_drewN | apply below_drew1) | exact HB.out)) hb); clear HB; have HB := n0_; clear n0_; (try clear hb); (try clear hb2); (try clear hk); (try clear hi)))
  go_ret
  exact ⟨by first | rfl | (simp [errW_none, errW_some] <;> rfl) | (simp [*, errW_none, errW_some] <;> rfl), by repeat (first | (with_reducible first | exact HB.out | apply below_alloc | apply pw_below_drewN | apply below_drew1) | exact HB.out)⟩

/-! ### kern2_Butterfly: function 20 -/
def kern2_Butterfly.f (a0 : Int) (a1 : Int) (a2 : Int) : Option (Int × Int) := (gold_Mul.f a1 a2).bind fun t162 => ((gold_Add.f a0 t162).bind fun t163 => ((gold_Sub.f a0 t162).bind fun t164 => (some (t163, t164))))
set_option maxHeartbeats 8000000 in
set_option maxRecDepth 100000 in
theorem kern2_Butterfly.calls (a0 : Int) (a1 : Int) (a2 : Int) (r1 : Int) (r2 : Int) (w : World) (h : kern2_Butterfly.f a0 a1 a2 = some (r1, r2)) :
    Calls Tryd.prog 20 #[.int .u64 a0, .int .u64 a1, .int .u64 a2] w fun e w' => e = .returned (.tuple #[.int .u64 r1, .int .u64 r2]) ∧ Below w.heap.size w w' := by
  have HB := Aside0.mk (Below.refl w.heap.size w)
  have H : ((gold_Mul.f a1 a2).bind fun t162 => ((gold_Add.f a0 t162).bind fun t163 => ((gold_Sub.f a0 t162).bind fun t164 => (some (t163, t164))))) = some (r1, r2) := h
  clear h
  replace H := Option.bind_eq_some_iff.mp H
  obtain ⟨t162, A40, H⟩ := H
  replace H : ((gold_Add.f a0 t162).bind fun t163 => ((gold_Sub.f a0 t162).bind fun t164 => (some (t163, t164)))) = some (r1, r2) := H
  have A4 := Aside0.mk A40
  clear A40
  replace H := Option.bind_eq_some_iff.mp H
  obtain ⟨t163, A50, H⟩ := H
  replace H : ((gold_Sub.f a0 t162).bind fun t164 => (some (t163, t164))) = some (r1, r2) := H
  have A5 := Aside0.mk A50
  clear A50
  replace H := Option.bind_eq_some_iff.mp H
  obtain ⟨t164, A60, H⟩ := H
  replace H : (some (t163, t164)) = some (r1, r2) := H
  have A6 := Aside0.mk A60
  clear A60
  simp only [Option.some.injEq, Prod.mk.injEq] at H
  obtain ⟨rfl, rfl⟩ := H
  go_enter Tryd.func20, Tryd.ntmps20
  go_wp2_with (first | ((with_reducible refine gate_callee (f := 38) rfl ?_); refine goesL_ (some 10) rfl rfl Tryd.func38 (by kernel_rfl) rfl #[.int .u64 a1, .int .u64 a2] rfl (by (try simp only [List.map_toArray, List.map_cons, List.map_nil]); first | done | rfl | (simp only [List.length_drop, List.length_take]; rfl)) ?_; (with_reducible refine (gold_Mul.calls a1 a2 t162 _ A4.out).mono ?_); rintro e w7 ⟨rfl, hb⟩; refine ⟨_, rfl, ?_⟩; have n0_ := Aside0.mk (below_step (by repeat (first | (with_reducible first | exact HB.out | apply below_alloc | apply pw_below_drewN | apply below_drew1) | exact HB.out)) hb); clear HB; have HB := n0_; clear n0_; (try clear hb); (try clear hb2); (try clear hk); (try clear hi)) | ((with_reducible refine gate_callee (f := 39) rfl ?_); refine goesL_ (some 13) rfl rfl Tryd.func39 (by kernel_rfl) rfl #[.int .u64 a0, .int .u64 t162] rfl (by (try simp only [List.map_toArray, List.map_cons, List.map_nil]); first | done | rfl | (simp only [List.length_drop, List.length_take]; rfl)) ?_; (with_reducible refine (gold_Add.calls a0 t162 t163 _ A5.out).mono ?_); rintro e w8 ⟨rfl, hb⟩; refine ⟨_, rfl, ?_⟩; have n0_ := Aside0.mk (below_step (by repeat (first | (with_reducible first | exact HB.out | apply below_alloc | apply pw_below_drewN | apply below_drew1) | exact HB.out)) hb); clear HB; have HB := n0_; clear n0_; (try clear hb); (try clear hb2); (try clear hk); (try clear hi)) | ((with_reducible refine gate_callee (f := 40) rfl ?_); refine goesL_ (some 16) rfl rfl Tryd.func40 (by kernel_rfl) rfl #[.int .u64 a0, .int .u64 t162] rfl (by (try simp only [List.map_toArray, List.map_cons, List.map_nil]); first | done | rfl | (simp only [List.length_drop, List.length_take]; rfl)) ?_; (with_reducible refine (gold_Sub.calls a0 t162 t164 _ A6.out).mono ?_); rintro e w9 ⟨rfl, hb⟩; refine ⟨_, rfl, ?_⟩; have n0_ := Aside0.mk (below_step (by repeat (first | (with_reducible first | exact HB.out | apply below_alloc | apply pw_below_drewN | apply below_drew1) | exact HB.out)) hb); clear HB; have HB := n0_; clear n0_; (try clear hb); (try clear hb2); (try clear hk); (try clear hi)))
  go_ret2
  exact ⟨by first | rfl | (simp [errW_none, errW_some] <;> rfl) | (simp [*, errW_none, errW_some] <;> rfl), by repeat (first | (with_reducible first | exact HB.out | apply below_alloc | apply pw_below_drewN | apply below_drew1) | exact HB.out)⟩

end Go.Proofs.YtggmpdmlbjllhaaDoor.PHalvesRun
