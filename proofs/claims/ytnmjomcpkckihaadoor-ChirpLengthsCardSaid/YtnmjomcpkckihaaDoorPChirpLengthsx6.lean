-- Written for this claim by wip/gen/mk.sh, this session's own driver over the kit's print
import Derived.Test.YtnmjomcpkckihaaDoorPChirpLengthsx0
import Derived.Test.YtnmjomcpkckihaaDoorPChirpLengthsx1
import Derived.Test.YtnmjomcpkckihaaDoorPChirpLengthsx2
import Derived.Test.YtnmjomcpkckihaaDoorPChirpLengthsx3
import Derived.Test.YtnmjomcpkckihaaDoorPChirpLengthsx5
namespace Go.Proofs.YtnmjomcpkckihaaDoor.PChirpLengths
open Go.RowKit Go.Proofs.YtnmjomcpkckihaaDoorW.PrintWords Go.Proofs.YtnmjomcpkckihaaDoorW.PrintLast Go.Proofs.YtnmjomcpkckihaaDoorW.PrintMore
attribute [local go_sem] max2_int min2_int max_two min_two max_three min_three max_four min_four   -- for this text's walks alone
set_option linter.unusedVariables false
set_option linter.unusedSimpArgs false

/-! ### conv_Cyclic: function 41 -/
def conv_Cyclic.f (k : Nat) (l0 : List Int) (l1 : List Int) : Option (List Int × Int) := (conv_check.f l0 l1).bind fun bt204 => (if bt204.2 = 0 then ((conv_cyclic.f k l0 l1 bt204.1).bind fun t206 => (some (t206, 0))) else (some (([] : List Int), bt204.2)))
theorem conv_Cyclic.mono : ∀ a0 a1 k, LeO (conv_Cyclic.f k a0 a1) (conv_Cyclic.f (k + 1) a0 a1) := by
  intro a0 a1 k
  unfold conv_Cyclic.f
  repeat' first
      | (with_reducible exact conv_cyclic.mono _ _ _ _)
      | (with_reducible exact LeO.refl _)
      | (with_reducible exact LeO.none _)
      | (with_reducible refine LeO.ite ?_ ?_)
      | (with_reducible refine LeO.bind ?_ (fun _ => ?_))
      | exact conv_cyclic.mono _ _ _ _
      | exact LeO.none _
      | refine LeO.ite ?_ ?_
      | refine LeO.bind ?_ (fun _ => ?_)
set_option maxHeartbeats 8000000 in
set_option maxRecDepth 100000 in
theorem conv_Cyclic.calls (k : Nat) (A0 : Option Addr) (c0 : Nat) (l0 : List Int) (A1 : Option Addr) (c1 : Nat) (l1 : List Int) (r1 : List Int) (r2 : Int) (w : World) (hr0 : Kd.C (Kd.int .u64) w A0 l0.length l0) (hc0 : l0.length ≤ c0) (hr1 : Kd.C (Kd.int .u64) w A1 l1.length l1) (hc1 : l1.length ≤ c1) (hG : Aside0 (TzTab w)) (h : conv_Cyclic.f k l0 l1 = some (r1, r2)) :
    Calls Tryd.prog 41 #[.slice A0 l0.length c0, .slice A1 l1.length c1] w fun e w' => ∃ v0_ : Value, e = .returned (.tuple #[v0_, .int .i64 r2]) ∧ Kd.R (Kd.int .u64) 23 w' w.heap.size (fun _ => True) v0_ r1 ∧ Below w.heap.size w w' := by
  have HR0 := Aside0.mk hr0
  have HC0 := Aside0.mk hc0
  clear hr0 hc0
  have HR1 := Aside0.mk hr1
  have HC1 := Aside0.mk hc1
  clear hr1 hc1
  have HB := Aside0.mk (Below.refl w.heap.size w)
  have H : ((conv_check.f l0 l1).bind fun bt204 => (if bt204.2 = 0 then ((conv_cyclic.f k l0 l1 bt204.1).bind fun t206 => (some (t206, 0))) else (some (([] : List Int), bt204.2)))) = some (r1, r2) := h
  clear h
  replace H := Option.bind_eq_some_iff.mp H
  obtain ⟨⟨t204, t205⟩, A30, H⟩ := H
  replace H : (if t205 = 0 then ((conv_cyclic.f k l0 l1 t204).bind fun t206 => (some (t206, 0))) else (some (([] : List Int), t205))) = some (r1, r2) := H
  have A3 := Aside0.mk A30
  clear A30
  by_cases c4 : t205 = 0
  · rw [if_pos c4] at H
    have c4b0 : (t205 == 0) = true := beq_iff_eq.mpr c4
    have c4b1 : (t205 != 0) = false := bne_eq_false_iff_eq.mpr c4
    clear c4
    replace H := Option.bind_eq_some_iff.mp H
    obtain ⟨t206, A50, H⟩ := H
    replace H : (some (t206, 0)) = some (r1, r2) := H
    have A5 := Aside0.mk A50
    clear A50
    simp only [Option.some.injEq, Prod.mk.injEq] at H
    obtain ⟨rfl, rfl⟩ := H
    go_enter Tryd.func41, Tryd.ntmps41
    go_wp2_with (first | ((with_reducible refine gate_callee (f := 47) rfl ?_); refine goesL_ (some 11) rfl rfl Tryd.func47 (by kernel_rfl) rfl #[.slice A0 l0.length c0, .slice A1 l1.length c1] rfl (by (try simp only [List.map_toArray, List.map_cons, List.map_nil]); first | done | rfl | (simp only [List.length_drop, List.length_take]; rfl)) ?_; (with_reducible refine (conv_check.calls _ _ l0 _ _ l1 t204 t205 _ ?side1 ?side2 ?side3 ?side4 ?sideG A3.out).mono ?_); (case sideG => first | exact hG | exact ⟨hG.out⟩ | exact ⟨hG.out.below (by repeat (first | (with_reducible first | exact HB.out | apply below_alloc | apply pw_below_drewN | apply below_drew1) | exact HB.out))⟩); (case side1 => repeat (first | exact HR0.out | (with_reducible refine Kd.C_alloc ?_ _) | (with_reducible refine Kd.C_drewN ?_ _) | (with_reducible refine Kd.C_drew ?_))); (case side2 => exact HC0.out); (case side3 => repeat (first | exact HR1.out | (with_reducible refine Kd.C_alloc ?_ _) | (with_reducible refine Kd.C_drewN ?_ _) | (with_reducible refine Kd.C_drew ?_))); (case side4 => exact HC1.out); rintro e w' ⟨rfl, ⟨nd, rfl⟩⟩; refine ⟨_, rfl, ?_⟩) | ((with_reducible refine gate_callee (f := 48) rfl ?_); refine goesL_ (some 20) rfl rfl Tryd.func48 (by kernel_rfl) rfl #[.slice A0 l0.length c0, .slice A1 l1.length c1, .int .i64 t204] rfl (by (try simp only [List.map_toArray, List.map_cons, List.map_nil]); first | done | rfl | (simp only [List.length_drop, List.length_take]; rfl)) ?_; (with_reducible refine (conv_cyclic.calls k _ _ l0 _ _ l1 t204 t206 _ ?side1 ?side2 ?side3 ?side4 A5.out).mono ?_); (case side1 => repeat (first | exact HR0.out | (with_reducible refine Kd.C_alloc ?_ _) | (with_reducible refine Kd.C_drewN ?_ _) | (with_reducible refine Kd.C_drew ?_))); (case side2 => exact HC0.out); (case side3 => repeat (first | exact HR1.out | (with_reducible refine Kd.C_alloc ?_ _) | (with_reducible refine Kd.C_drewN ?_ _) | (with_reducible refine Kd.C_drew ?_))); (case side4 => exact HC1.out); rintro e w6 ⟨v207, rfl, ho0, hb⟩; refine ⟨_, rfl, ?_⟩; have n0_ := Aside0.mk (Kd.R_lower ho0 (below_size (by repeat (first | (with_reducible first | exact HB.out | apply below_alloc | apply pw_below_drewN | apply below_drew1) | exact HB.out)))); have n1_ := Aside0.mk (below_step (by repeat (first | (with_reducible first | exact HB.out | apply below_alloc | apply pw_below_drewN | apply below_drew1) | exact HB.out)) hb); clear HB; have HO208 := n0_; have HB := n1_; clear n0_ n1_; (try clear hb); (try clear hb2); (try clear hk); (try clear hi); (try clear ho0)))
    go_ret2
    exact ⟨_, by first | rfl | (simp [errW_none, errW_some] <;> rfl) | (simp [*, errW_none, errW_some] <;> rfl), by (with_reducible repeat (first | apply Kd.R_alloc | apply Kd.R_drewN | apply Kd.R_drew)); exact HO208.out, by repeat (first | (with_reducible first | exact HB.out | apply below_alloc | apply pw_below_drewN | apply below_drew1) | exact HB.out)⟩
  · rw [if_neg c4] at H
    have c4b0 : (t205 == 0) = false := beq_eq_false_iff_ne.mpr c4
    have c4b1 : (t205 != 0) = true := bne_iff_ne.mpr c4
    simp only [Option.some.injEq, Prod.mk.injEq] at H
    obtain ⟨rfl, rfl⟩ := H
    go_enter Tryd.func41, Tryd.ntmps41
    go_wp2_with (first | ((with_reducible refine gate_callee (f := 47) rfl ?_); refine goesL_ (some 11) rfl rfl Tryd.func47 (by kernel_rfl) rfl #[.slice A0 l0.length c0, .slice A1 l1.length c1] rfl (by (try simp only [List.map_toArray, List.map_cons, List.map_nil]); first | done | rfl | (simp only [List.length_drop, List.length_take]; rfl)) ?_; (with_reducible refine (conv_check.calls _ _ l0 _ _ l1 t204 t205 _ ?side1 ?side2 ?side3 ?side4 ?sideG A3.out).mono ?_); (case sideG => first | exact hG | exact ⟨hG.out⟩ | exact ⟨hG.out.below (by repeat (first | (with_reducible first | exact HB.out | apply below_alloc | apply pw_below_drewN | apply below_drew1) | exact HB.out))⟩); (case side1 => repeat (first | exact HR0.out | (with_reducible refine Kd.C_alloc ?_ _) | (with_reducible refine Kd.C_drewN ?_ _) | (with_reducible refine Kd.C_drew ?_))); (case side2 => exact HC0.out); (case side3 => repeat (first | exact HR1.out | (with_reducible refine Kd.C_alloc ?_ _) | (with_reducible refine Kd.C_drewN ?_ _) | (with_reducible refine Kd.C_drew ?_))); (case side4 => exact HC1.out); rintro e w' ⟨rfl, ⟨nd, rfl⟩⟩; refine ⟨_, rfl, ?_⟩))
    go_ret2
    exact ⟨_, by first | rfl | (simp [errW_none, errW_some] <;> rfl) | (simp [*, errW_none, errW_some] <;> rfl), by first | exact Kd.R_nil _ _ _ _ _ | exact Kd.N_nil _ _ _ _ _ | exact Kd.V_nil _ _ _ _ _ | exact Kd.Q_nil _ _ _ _ _ | exact Kd.S_nil _ _ _ _ _, by repeat (first | (with_reducible first | exact HB.out | apply below_alloc | apply pw_below_drewN | apply below_drew1) | exact HB.out)⟩

/-! ### chirp_values: function 26 (by hand) -/
/-- So many words of a polynomial, each times its hill, from behind, around a row. -/
def hk_cva (p down : List Int) (N : Nat) : Nat → Option (List Int)
  | 0 => some (List.replicate N 0)
  | i + 1 => (hk_cva p down N i).bind fun x => (gold_Mul.f (rd p (i : Int)) (rd down (i : Int))).bind fun v => some (x.set ((N - i) % N) v)
/-- So many products, each times its hill. -/
def hk_cvo (c down : List Int) (M : Nat) : Nat → Option (List Int)
  | 0 => some (List.replicate M 0)
  | i + 1 => (hk_cvo c down M i).bind fun x => (gold_Mul.f (rd c (i : Int)) (rd down (i : Int))).bind fun v => some (x.set i v)
theorem hk_cva_length {p down : List Int} {N : Nat} : ∀ {i : Nat} {x : List Int}, hk_cva p down N i = some x → x.length = N
  | 0, x, h => by rw [← Option.some.inj h, List.length_replicate]
  | i + 1, x, h => by
    unfold hk_cva at h
    obtain ⟨y, hy, h⟩ := Option.bind_eq_some_iff.1 h
    obtain ⟨v, _, h⟩ := Option.bind_eq_some_iff.1 h
    rw [← Option.some.inj h, List.length_set]
    exact hk_cva_length hy
theorem hk_cva_down {p down : List Int} {N : Nat} : ∀ {i j : Nat} {r : List Int}, hk_cva p down N (i + j) = some r → ∃ x, hk_cva p down N i = some x
  | i, 0, r, h => ⟨r, h⟩
  | i, j + 1, r, h => by
    unfold hk_cva at h
    obtain ⟨y, hy, _⟩ := Option.bind_eq_some_iff.1 h
    exact hk_cva_down (j := j) hy
theorem hk_cvo_length {c down : List Int} {M : Nat} : ∀ {i : Nat} {x : List Int}, hk_cvo c down M i = some x → x.length = M
  | 0, x, h => by rw [← Option.some.inj h, List.length_replicate]
  | i + 1, x, h => by
    unfold hk_cvo at h
    obtain ⟨y, hy, h⟩ := Option.bind_eq_some_iff.1 h
    obtain ⟨v, _, h⟩ := Option.bind_eq_some_iff.1 h
    rw [← Option.some.inj h, List.length_set]
    exact hk_cvo_length hy
theorem hk_cvo_down {c down : List Int} {M : Nat} : ∀ {i j : Nat} {r : List Int}, hk_cvo c down M (i + j) = some r → ∃ x, hk_cvo c down M i = some x
  | i, 0, r, h => ⟨r, h⟩
  | i, j + 1, r, h => by
    unfold hk_cvo at h
    obtain ⟨y, hy, _⟩ := Option.bind_eq_some_iff.1 h
    exact hk_cvo_down (j := j) hy
theorem hk_cv_mz {N : Nat} (h : N ≤ 1048576) {w w1 : World} (hb : Below w.heap.size w w1) :
    Kd.R (Kd.int .u64) 23 ((w1.alloc (.cells (hk_mz N) 23)).alloc (.cells (hk_mz N) 23)).drew w.heap.size (fun j => j = w1.heap.size) (.slice (some ⟨w1.heap.size, 0, none⟩) N N) (List.replicate N 0) ∧
    Kd.R (Kd.int .u64) 23 ((w1.alloc (.cells (hk_mz N) 23)).alloc (.cells (hk_mz N) 23)).drew w.heap.size (fun j => j = w1.heap.size + 1) (.slice (some ⟨w1.heap.size + 1, 0, none⟩) N N) (List.replicate N 0) ∧
    Below w.heap.size w ((w1.alloc (.cells (hk_mz N) 23)).alloc (.cells (hk_mz N) 23)).drew := by
  have h1 := hk_mz_R (W := w1) (base := w.heap.size) (ok := fun j => j = w1.heap.size) h hb.size rfl
  have e : (w1.alloc (.cells (hk_mz N) 23)).heap.size = w1.heap.size + 1 := by simp
  have hs := hb.size
  have h2 := hk_mz_R (W := w1.alloc (.cells (hk_mz N) 23)) (base := w.heap.size) (ok := fun j => j = w1.heap.size + 1) h (by omega) e
  rw [e] at h2
  exact ⟨Kd.R_drew (Kd.R_alloc h1 _), Kd.R_drew h2, ((hb.alloc hs _).alloc (by omega) _).drew⟩
theorem hk_cv_cyc (k : Nat) (A0 : Option Addr) (c0 m0 : Nat) (l0 : List Int) (A1 : Option Addr) (c1 m1 : Nat) (l1 : List Int) (r1 : List Int) (r2 : Int) (w : World) (h0 : m0 = l0.length) (h1 : m1 = l1.length) (hr0 : Kd.C (Kd.int .u64) w A0 l0.length l0) (hc0 : l0.length ≤ c0) (hr1 : Kd.C (Kd.int .u64) w A1 l1.length l1) (hc1 : l1.length ≤ c1) (hG : Aside0 (TzTab w)) (h : conv_Cyclic.f k l0 l1 = some (r1, r2)) :
    Calls Tryd.prog 41 #[.slice A0 m0 c0, .slice A1 m1 c1] w fun e w' => ∃ v0_ : Value, e = .returned (.tuple #[v0_, .int .i64 r2]) ∧ Kd.R (Kd.int .u64) 23 w' w.heap.size (fun _ => True) v0_ r1 ∧ Below w.heap.size w w' := by
  subst h0 h1
  exact conv_Cyclic.calls k A0 c0 l0 A1 c1 l1 r1 r2 w hr0 hc0 hr1 hc1 hG h
set_option maxHeartbeats 8000000 in
set_option maxRecDepth 100000 in
theorem hk_cv.walk (n N M : Nat) (A0 : Option Addr) (c0 : Nat) (p : List Int) (wv vv : Int) (down hl a c o : List Int) (ce : Int) (w : World) (hG : Aside0 (TzTab w)) (hr0 : Kd.C (Kd.int .u64) w A0 p.length p) (hc0 : p.length ≤ c0) (hp : p.length ≤ 65536) (hM : M ≤ 65536) (h1 : chirp_power.f n ((p.length : Int) + (M : Int)) = some (N : Int)) (h2 : chirp_hills.f n vv (mx (p.length : Int) (M : Int)) = some down) (h3 : chirp_hills.f n wv ((p.length : Int) + (M : Int)) = some hl)
    (hN0 : 0 < N) (hN : N ≤ 1048576) (hpN : p.length ≤ N) (hd1 : p.length ≤ down.length) (hd2 : M ≤ down.length) (hhl : hl.length ≤ N) (h4 : hk_cva p down N p.length = some a) (h5 : conv_Cyclic.f n a (hl ++ List.replicate (N - hl.length) 0) = some (c, ce)) (hcM : M ≤ c.length) (h6 : hk_cvo c down M M = some o) :
    Calls Tryd.prog 26 #[.slice A0 p.length c0, .int .u64 wv, .int .u64 vv, .int .i64 (M : Int)] w fun e w' => ∃ v0_ : Value, e = .returned (v0_) ∧ Kd.R (Kd.int .u64) 23 w' w.heap.size (fun _ => True) v0_ o ∧ Below w.heap.size w w' := by
  have HR0 := Aside0.mk hr0
  have HC0 := Aside0.mk hc0
  have e1 : wrap64 ((p.length : Int) + (M : Int)) = (p.length : Int) + (M : Int) := by unfold wrap64; omega
  obtain ⟨z, hz⟩ : ∃ z : Int, mx (p.length : Int) (M : Int) = z := ⟨_, rfl⟩
  have hz2 : (if (p.length : Int) < (M : Int) then (M : Int) else (p.length : Int)) = z := hz
  rw [hz] at h2
  obtain ⟨m, hm⟩ : ∃ m : Int, (M : Int) = m := ⟨_, rfl⟩
  rw [hm] at e1 hz2 h1 h3
  have H1 := Aside0.mk h1
  have H2 := Aside0.mk h2
  have H3 := Aside0.mk h3
  have HP := Aside0.mk hp
  have HM := Aside0.mk hM
  have HN0 := Aside0.mk hN0
  have HN := Aside0.mk hN
  have HPN := Aside0.mk hpN
  have HD1 := Aside0.mk hd1
  have HD2 := Aside0.mk hd2
  have HHL := Aside0.mk hhl
  have H4 := Aside0.mk h4
  have H5 := Aside0.mk h5
  have HCM := Aside0.mk hcM
  have H6 := Aside0.mk h6
  have MK := hk_mz_run hN
  clear hr0 hc0 hz h1 h2 h3 hp hM hN0 hN hpN hd1 hd2 hhl h4 h5 hcM h6
  rw [hm]
  go_enter Tryd.func26, Tryd.ntmps26
  go_wp2_with (first | (go_at_call 38; (with_reducible refine (chirp_power.calls n _ (N : Int) _ H1.out).mono ?_); rintro e w1 ⟨rfl, hd_⟩; have B1 := Aside0.mk (hk_drawn_below hd_); clear hd_) | (go_at_call 39; (with_reducible refine (chirp_hills.calls n vv z down _ H2.out).mono ?_); rintro e w2 ⟨v2, rfl, hR_, hB_⟩; obtain ⟨Ad, cd, e_⟩ := Kd.R_slice hR_; subst e_; have RD := Aside0.mk (Kd.R_lower hR_ B1.out.size); have B2 := Aside0.mk (B1.out.trans (hB_.mono B1.out.size)); clear hR_ hB_))
  subst hm
  go_cut [11, 12] from 30 to 90 (fun v11 v12 wx => ∃ ga gb, v11 = .slice (some ⟨ga, 0, none⟩) N N ∧ v12 = .slice (some ⟨gb, 0, none⟩) N N ∧ Aside0 (ga ≠ gb) ∧ Aside0 (w2.heap.size ≤ ga ∧ w2.heap.size ≤ gb) ∧ Aside0 (Kd.R (Kd.int .u64) 23 wx w2.heap.size (fun j => j = ga) (.slice (some ⟨ga, 0, none⟩) N N) (List.replicate N 0)) ∧ Aside0 (Kd.R (Kd.int .u64) 23 wx w2.heap.size (fun j => j = gb) (.slice (some ⟨gb, 0, none⟩) N N) (List.replicate N 0)) ∧ Aside0 (Below w2.heap.size w2 wx))
  case first =>
    go_region
    all_goals (go_wp2_with fail)
    all_goals go_meet
    all_goals
      case rel =>
        have h2 := hk_cv_mz (show N ≤ 1048576 from HN.out) (Below.refl w2.heap.size w2)
        first
          | exact ⟨w2.heap.size, w2.heap.size + 1, rfl, rfl, ⟨by omega⟩, ⟨by omega⟩, ⟨h2.1⟩, ⟨h2.2.1⟩, ⟨h2.2.2⟩⟩
          | exact ⟨w2.heap.size + 1, w2.heap.size, rfl, rfl, ⟨by omega⟩, ⟨by omega⟩, ⟨h2.2.1⟩, ⟨h2.1⟩, ⟨h2.2.2⟩⟩
  obtain ⟨ga, gb, rfl, rfl, NE, GE, RA, RB, HB⟩ := hcut
  clear MK
  go_wp2_with fail
  go_loopg [36] (p.length) (fun kq v36 w' => ∃ (i : Nat) (x : List Int), v36 = .int .i64 (i : Int) ∧ Aside0 (kq + i = p.length) ∧ Aside0 (hk_cva p down N i = some x) ∧ Aside0 (Kd.R (Kd.int .u64) 23 w' w2.heap.size (fun j => j = ga) (.slice (some ⟨ga, 0, none⟩) N N) x) ∧ Aside0 (Kd.R (Kd.int .u64) 23 w' w2.heap.size (fun j => j = gb) (.slice (some ⟨gb, 0, none⟩) N N) (List.replicate N 0)) ∧ Aside0 (Below w2.heap.size w2 w'))
  case atStart => exact ⟨0, _, by simp, ⟨by omega⟩, ⟨rfl⟩, RA, RB, HB⟩
  case round =>
    clear RA RB HB
    obtain ⟨i, x, rfl, HI, HX, RA, RB, HB⟩ := hrel
    have HXL := Aside0.mk (hk_cva_length HX.out)
    cases gk with
    | succ k1 =>
      have hi := HI.out
      have hil : i < p.length := by omega
      obtain ⟨y, hy⟩ : ∃ y, hk_cva p down N (i + 1) = some y := hk_cva_down (j := k1) (by rw [show i + 1 + k1 = p.length by omega]; exact H4.out)
      have HY := Aside0.mk hy
      unfold hk_cva at hy
      rw [HX.out, Option.bind_some] at hy
      obtain ⟨v, hv, hy⟩ := Option.bind_eq_some_iff.1 hy
      have HV := Aside0.mk hv
      have EY := Aside0.mk (Option.some.inj hy)
      obtain ⟨q, hq⟩ : ∃ q : Nat, q = (N - i) % N := ⟨_, rfl⟩
      have hpn := HPN.out
      have hdl := HD1.out
      have hqN : q < N := by rw [hq]; exact Nat.mod_lt _ HN0.out
      rw [← hq] at EY
      have hn2 := HN.out
      have m1 : wrap64 ((N : Int) - (i : Int)) = ((N - i : Nat) : Int) := by unfold wrap64; omega
      have m2 : Int.tmod ((N - i : Nat) : Int) (N : Int) = (q : Int) := by rw [Int.tmod_eq_emod_of_nonneg (by omega), hq]; exact (Int.natCast_emod _ _).symm
      have HQ := Aside0.mk hqN
      have c1 : decide ((i : Int) < (p.length : Int)) = true := decide_eq_true (by omega)
      have c2 : (i < p.length) = True := eq_true hil
      have c3 : (0 ≤ (i : Int)) = True := eq_true (by omega)
      have c4 : ((i : Int) < (p.length : Int)) = True := eq_true (by omega)
      have c5 : ((i : Int) < (down.length : Int)) = True := eq_true (by omega)
      have c6 : (i < down.length) = True := eq_true (by omega)
      have c7 : ((N : Int) = 0) = False := eq_false (by omega)
      have c8 : (N = 0) = False := eq_false (by omega)
      have c9 : (0 ≤ (q : Int)) = True := eq_true (by omega)
      have c10 : ((q : Int) < (N : Int)) = True := eq_true (by omega)
      have c11 : (q < N) = True := eq_true hqN
      have hRL := Kd.C_below HR0.out (B2.out.trans (HB.out.mono B2.out.size))
      obtain ⟨ad, e0, hx⟩ := Kd.at_int hRL (i : Int) (by omega) (by omega)
      have hRL2 := (Kd.R_reads' RD.out).2.2
      obtain ⟨ad2, e2, hx2⟩ := Kd.at_int hRL2 (i : Int) (by omega) (by omega)
      rw [Int.toNat_natCast] at hx hx2
      subst e0 e2
      have SQ := Aside0.mk (show ∀ V, Below w2.heap.size w2 V → V.cell? (ad2.add i) = some (.int .u64 (rd down (i : Int))) from fun V hV => (hV.cell (World.block_lt_of_cell? _ _ hx2)).trans hx2)
      have hx2 := SQ.out _ HB.out
      obtain ⟨hxa, hfa⟩ := Kd.R_celln 0 RA.out (q : Int) (by omega) (by have := HXL.out; omega)
      rw [Int.toNat_natCast] at hxa hfa
      clear hi hil hy hv hq hpn hdl hqN hn2 hRL hRL2
      go_wp2_with fail
      have HC := HB
      have DA := RA
      have DB := RB
      have HQ0 := Aside0.mk (show 0 ≤ (q : Int) by omega)
      have HQL := Aside0.mk (show (q : Int) < (N : Int) by have := HQ.out; omega)
      have m1b : IntKind.i64.wrap ((N : Int) - (i : Int)) = ((N - i : Nat) : Int) := by rw [i64_w]; exact m1
      go_region_held3 (fun V => V.cell? (ad2.add i) = some (.int .u64 (rd down (i : Int)))) (first | ((refine SQ.out _ ?_; (with_reducible repeat (first | exact HC.out | apply below_drew | refine below_set ?_ GE.out.1)); done)) | go_keep) (first | (go_at_call 40; (with_reducible refine (gold_Mul.calls _ _ v _ HV.out).mono ?_); rintro e v1 ⟨rfl, hb1⟩; have n0_ := Aside0.mk (below_step (by (with_reducible repeat (first | exact HC.out | apply below_drew))) hb1); have n1_ := Aside0.mk (Kd.R_below (by (with_reducible repeat (first | exact DA.out | apply Kd.R_drew))) hb1); have n2_ := Aside0.mk (Kd.R_below (by (with_reducible repeat (first | exact DB.out | apply Kd.R_drew))) hb1); clear HC DA DB hxa hfa hb1; have HC := n0_; have DA := n1_; have DB := n2_; clear n0_ n1_ n2_; obtain ⟨hxa, hfa⟩ := Kd.R_celln 0 DA.out (q : Int) HQ0.out HQL.out; rw [Int.toNat_natCast] at hxa hfa))
      clear RA RB HB hx hx2 hxa hfa SQ m1b
      have PA := Aside0.mk (Kd.R_putn DA.out (q : Int) v)
      rw [Int.toNat_natCast, EY.out] at PA
      have PB := Aside0.mk (Kd.R_far DB.out (p := ⟨ga, q, none⟩) (fun k hk => by subst hk; exact Ne.symm NE.out) (.int .u64 v))
      have HB6 := Aside0.mk (below_set HC.out GE.out.1 (j := q) (v := .int .u64 v))
      clear HC DA DB
      go_wp2_with fail
      clear c1 c2 c3 c4 c5 c6 c7 c8 c9 c10 c11 m1 m2
      go_roundg k1
      case measure => omega
      case rel => exact ⟨i + 1, y, (by rw [show wrap64 ((i : Int) + 1) = ((i + 1 : Nat) : Int) by have := HI.out; have := HP.out; unfold wrap64; omega]), ⟨by have := HI.out; omega⟩, HY, PA, PB, HB6⟩
    | zero =>
      have hi := HI.out
      have ei : i = p.length := by omega
      have ex : x = a := by
        have hx := HX.out
        rw [ei, H4.out] at hx
        exact (Option.some.inj hx).symm
      subst ex
      have c1 : decide ((i : Int) < (p.length : Int)) = false := decide_eq_false (by omega)
      have c2 : (i < p.length) = False := eq_false (by omega)
      have MK := hk_mz_run (show M ≤ 1048576 by have := HM.out; omega)
      clear hi ei HX HI
      go_wp2_with (first | (go_at_call 39; (with_reducible refine (chirp_hills.calls n wv _ hl _ H3.out).mono ?_); rintro e w3 ⟨v3, rfl, hR_, hB_⟩; obtain ⟨Ah, ch, e_⟩ := Kd.R_slice hR_; subst e_; have RH := Aside0.mk hR_; have RA3 := Aside0.mk (Kd.R_below RA.out hB_); have RB3 := Aside0.mk (Kd.R_below RB.out hB_); have HB3 := Aside0.mk (HB.out.trans (hB_.mono HB.out.size)); clear hR_ hB_) | ((with_reducible refine gate_builtin (b := .copy) (xs := #[.tmp 55, .tmp 61]) rfl ?_); refine Kd.R_copy (enc := Value.int .u64) (h1 := fun _ => rfl) (0 : Int) (w0 := w2) w2.heap.size rfl (.tmp 55) (.tmp 61) 22 22 23 rfl Tryd.underlying22 (by kernel_rfl) (.slice (some ⟨gb, 0, none⟩) N N) (List.replicate N 0) hl Ah hl.length _ (fun j => j = gb) rfl rfl RB3.out (Kd.R_reads' RH.out).2.2 HB3.out HB3.out.size ?_; intro w4 hR_ hB_ hK_; have KP := Kept.of_grown hK_ (Kept.refl w3 (fun k => k = gb)) (fun k hk => .inl (Option.some.inj hk).symm); have RA4 := Aside0.mk (Kd.R_kept RA3.out KP (fun k hk h2 => NE.out (hk.symm.trans h2))); rw [List.length_replicate, Nat.min_eq_left HHL.out, List.take_length, List.drop_replicate] at hR_; have RB4 := Aside0.mk hR_; have HB4 := Aside0.mk hB_; clear hR_ hB_ hK_ KP) | (go_at_call 41; (with_reducible refine (hk_cv_cyc n (some ⟨ga, 0, none⟩) N N x (some ⟨gb, 0, none⟩) N N (hl ++ List.replicate (N - hl.length) 0) c ce _ ?e0 ?e1 ?r0 ?l0 ?r1 ?l1 ?sideG H5.out).mono ?_); (case e0 => exact HXL.out.symm); (case e1 => have := HHL.out; rw [List.length_append, List.length_replicate]; omega); (case r0 => exact (Kd.R_reads' RA4.out).2.2); (case l0 => exact Nat.le_of_eq HXL.out); (case r1 => exact (Kd.R_reads' RB4.out).2.2); (case l1 => have := HHL.out; rw [List.length_append, List.length_replicate]; omega); (case sideG => exact ⟨hG.out.below (B2.out.trans (HB4.out.mono B2.out.size))⟩); rintro e w5 ⟨vc, rfl, hR_, hB_⟩; obtain ⟨Ac, cc, e_⟩ := Kd.R_slice hR_; subst e_; have RC := Aside0.mk hR_; have HB5 := Aside0.mk (HB4.out.trans (hB_.mono HB4.out.size)); clear hR_ hB_))
      have RO := Aside0.mk (hk_mz_R (W := w5) (base := w5.heap.size) (ok := fun j => j = w5.heap.size) (show M ≤ 1048576 by have := HM.out; omega) (Nat.le_refl _) rfl)
      have HBo := Aside0.mk ((Below.refl w5.heap.size w5).alloc (Nat.le_refl _) (.cells (hk_mz M) 23))
      clear MK c1 c2
      go_loopg [73] (M) (fun kq v73 w' => ∃ (j : Nat) (x : List Int), v73 = .int .i64 (j : Int) ∧ Aside0 (kq + j = M) ∧ Aside0 (hk_cvo c down M j = some x) ∧ Aside0 (Kd.R (Kd.int .u64) 23 w' w5.heap.size (fun j => j = w5.heap.size) (.slice (some ⟨w5.heap.size, 0, none⟩) M M) x) ∧ Aside0 (Below w5.heap.size w5 w'))
      case atStart => exact ⟨0, _, by simp, ⟨by omega⟩, ⟨rfl⟩, RO, HBo⟩
      case round =>
        clear RO HBo
        obtain ⟨j, y, rfl, HJ, HY, RO, HBo⟩ := hrel
        have HYL := Aside0.mk (hk_cvo_length HY.out)
        cases gk with
        | zero =>
          have hj := HJ.out
          have ej : j = M := by omega
          have ey : y = o := by
            have hy := HY.out
            rw [ej, H6.out] at hy
            exact (Option.some.inj hy).symm
          subst ey
          have c1 : decide ((j : Int) < (M : Int)) = false := decide_eq_false (by omega)
          have c2 : (j < M) = False := eq_false (by omega)
          clear hj ej
          go_wp2_with fail
          go_ret
          exact ⟨_, rfl, Kd.R_mono (Kd.R_lower RO.out (B2.out.trans (HB5.out.mono B2.out.size)).size) (fun _ _ => trivial), (B2.out.trans (HB5.out.mono B2.out.size)).trans (HBo.out.mono (B2.out.trans (HB5.out.mono B2.out.size)).size)⟩
        | succ k1 =>
          have hj := HJ.out
          have hjM : j < M := by omega
          obtain ⟨y2, hy⟩ : ∃ y2, hk_cvo c down M (j + 1) = some y2 := hk_cvo_down (j := k1) (by rw [show j + 1 + k1 = M by omega]; exact H6.out)
          have HY2 := Aside0.mk hy
          unfold hk_cvo at hy
          rw [HY.out, Option.bind_some] at hy
          obtain ⟨v, hv, hy⟩ := Option.bind_eq_some_iff.1 hy
          have HV := Aside0.mk hv
          have EY := Aside0.mk (Option.some.inj hy)
          have hdl := HD2.out
          have hcl := HCM.out
          have c1 : decide ((j : Int) < (M : Int)) = true := decide_eq_true (by omega)
          have c2 : (j < M) = True := eq_true hjM
          have c3 : (0 ≤ (j : Int)) = True := eq_true (by omega)
          have c4 : ((j : Int) < (c.length : Int)) = True := eq_true (by omega)
          have c5 : (j < c.length) = True := eq_true (by omega)
          have c6 : ((j : Int) < (down.length : Int)) = True := eq_true (by omega)
          have c7 : (j < down.length) = True := eq_true (by omega)
          have c8 : ((j : Int) < (M : Int)) = True := eq_true (by omega)
          have hRL := (Kd.R_reads' RC.out).2.2
          obtain ⟨ad, e0, hx⟩ := Kd.at_int hRL (j : Int) (by omega) (by omega)
          have hRL2 := Kd.C_below (Kd.R_reads' RD.out).2.2 HB5.out
          obtain ⟨ad2, e2, hx2⟩ := Kd.at_int hRL2 (j : Int) (by omega) (by omega)
          rw [Int.toNat_natCast] at hx hx2
          subst e0 e2
          have SQ := Aside0.mk (show ∀ V, Below w5.heap.size w5 V → V.cell? (ad.add j) = some (.int .u64 (rd c (j : Int))) ∧ V.cell? (ad2.add j) = some (.int .u64 (rd down (j : Int))) from fun V hV => ⟨(hV.cell (World.block_lt_of_cell? _ _ hx)).trans hx, (hV.cell (World.block_lt_of_cell? _ _ hx2)).trans hx2⟩)
          clear hx hx2
          obtain ⟨hx, hx2⟩ := SQ.out _ HBo.out
          obtain ⟨hxa, hfa⟩ := Kd.R_celln 0 RO.out (j : Int) (by omega) (by have := HYL.out; omega)
          rw [Int.toNat_natCast] at hxa hfa
          clear hj hjM hy hv hdl hcl hRL hRL2
          go_wp2_with fail
          have HC := HBo
          have DA := RO
          go_region_held3 (fun V => V.cell? (ad.add j) = some (.int .u64 (rd c (j : Int))) ∧ V.cell? (ad2.add j) = some (.int .u64 (rd down (j : Int)))) (first | ((refine SQ.out _ ?_; (with_reducible repeat (first | exact HC.out | apply below_drew | refine below_set ?_ (Nat.le_refl _))); done)) | go_keep) (first | (go_at_call 40; (with_reducible refine (gold_Mul.calls _ _ v _ HV.out).mono ?_); rintro e v1 ⟨rfl, hb1⟩; have n0_ := Aside0.mk (below_step (by (with_reducible repeat (first | exact HC.out | apply below_drew))) hb1); have n1_ := Aside0.mk (Kd.R_below (by (with_reducible repeat (first | exact DA.out | apply Kd.R_drew))) hb1); clear HC DA hxa hfa hb1; have HC := n0_; have DA := n1_; clear n0_ n1_; obtain ⟨hxa, hfa⟩ := Kd.R_celln 0 DA.out (j : Int) (by omega) (by have := HYL.out; have := HJ.out; omega); rw [Int.toNat_natCast] at hxa hfa))
          clear RO HBo hx hx2 hxa hfa SQ
          have PO := Aside0.mk (Kd.R_putn DA.out (j : Int) v)
          rw [Int.toNat_natCast, EY.out] at PO
          have HBo7 := Aside0.mk (below_set HC.out (Nat.le_refl _) (j := j) (v := .int .u64 v))
          clear HC DA
          go_wp2_with fail
          clear c1 c2 c3 c4 c5 c6 c7 c8
          go_roundg k1
          case measure => omega
          case rel => exact ⟨j + 1, y2, (by rw [show wrap64 ((j : Int) + 1) = ((j + 1 : Nat) : Int) by have := HJ.out; have := HM.out; unfold wrap64; omega]), ⟨by have := HJ.out; omega⟩, HY2, PO, HBo7⟩
def chirp_values.f (n : Nat) (p : List Int) (w v m : Int) : Option (List Int) :=
  if p.length ≤ 65536 ∧ 0 ≤ m ∧ m ≤ 65536 then
    (chirp_power.f n ((p.length : Int) + m)).bind fun size => (chirp_hills.f n v (mx (p.length : Int) m)).bind fun down => (chirp_hills.f n w ((p.length : Int) + m)).bind fun hl =>
      if (0 < size ∧ size ≤ 1048576 ∧ p.length ≤ size.toNat) ∧ p.length ≤ down.length ∧ m ≤ (down.length : Int) ∧ hl.length ≤ size.toNat then
        (hk_cva p down size.toNat p.length).bind fun a => (conv_Cyclic.f n a (hl ++ List.replicate (size.toNat - hl.length) 0)).bind fun c => if m ≤ (c.1.length : Int) then hk_cvo c.1 down m.toNat m.toNat else none
      else none
  else none
theorem chirp_values.mono : ∀ a0 a1 a2 a3 k, LeO (chirp_values.f k a0 a1 a2 a3) (chirp_values.f (k + 1) a0 a1 a2 a3) := by
  intro a0 a1 a2 a3 k
  unfold chirp_values.f
  exact LeO.ite (LeO.bind (chirp_power.mono _ _) (fun size => LeO.bind (chirp_hills.mono _ _ _) (fun down => LeO.bind (chirp_hills.mono _ _ _) (fun hl => LeO.ite (LeO.bind (LeO.refl _) (fun a => LeO.bind (conv_Cyclic.mono _ _ _) (fun c => LeO.refl _))) (LeO.refl _))))) (LeO.refl _)
theorem chirp_values.calls (k : Nat) (A0 : Option Addr) (c0 : Nat) (l0 : List Int) (a1 : Int) (a2 : Int) (a3 : Int) (r : List Int) (w : World) (hr0 : Kd.C (Kd.int .u64) w A0 l0.length l0) (hc0 : l0.length ≤ c0) (hG : Aside0 (TzTab w)) (h : chirp_values.f k l0 a1 a2 a3 = some r) :
    Calls Tryd.prog 26 #[.slice A0 l0.length c0, .int .u64 a1, .int .u64 a2, .int .i64 a3] w fun e w' => ∃ v0_ : Value, e = .returned (v0_) ∧ Kd.R (Kd.int .u64) 23 w' w.heap.size (fun _ => True) v0_ r ∧ Below w.heap.size w w' := by
  unfold chirp_values.f at h
  by_cases c : l0.length ≤ 65536 ∧ 0 ≤ a3 ∧ a3 ≤ 65536
  case neg => rw [if_neg c] at h; cases h
  rw [if_pos c] at h
  obtain ⟨g0, g1, g2⟩ := c
  obtain ⟨size, h1, h⟩ := Option.bind_eq_some_iff.1 h
  obtain ⟨down, h2, h⟩ := Option.bind_eq_some_iff.1 h
  obtain ⟨hl, h3, h⟩ := Option.bind_eq_some_iff.1 h
  by_cases c : (0 < size ∧ size ≤ 1048576 ∧ l0.length ≤ size.toNat) ∧ l0.length ≤ down.length ∧ a3 ≤ (down.length : Int) ∧ hl.length ≤ size.toNat
  case neg => rw [if_neg c] at h; cases h
  rw [if_pos c] at h
  obtain ⟨⟨g3, g4, g5⟩, g6, g7, g8⟩ := c
  obtain ⟨a, h4, hA⟩ := Option.bind_eq_some_iff.1 h
  obtain ⟨⟨cr, ce⟩, h5, hB⟩ := Option.bind_eq_some_iff.1 hA
  by_cases c : a3 ≤ (cr.length : Int)
  case neg =>
    have e := (if_neg c).symm.trans hB
    cases e
  have hC : hk_cvo cr down a3.toNat a3.toNat = some r := (if_pos c).symm.trans hB
  clear h hA hB
  obtain ⟨N, rfl⟩ := Int.eq_ofNat_of_zero_le (show 0 ≤ size by omega)
  obtain ⟨M, rfl⟩ := Int.eq_ofNat_of_zero_le g1
  rw [Int.toNat_natCast] at g5 g8 h4 h5
  exact hk_cv.walk k N M A0 c0 l0 a1 a2 down hl a cr r ce w hG hr0 hc0 g0 (by omega) h1 h2 h3 (by omega) (by omega) g5 g6 (by omega) g8 h4 h5 (by omega) hC

/-! ### chirp_divided: function 32 -/
def chirp_divided.l0 : Nat → List Int → Int → Int → Int → Option (List Int)
  | 0, _, _, _, _ => none
  | k + 1, x0, x5, x18, x19 => if x19 < x18 then (if 0 ≤ x19 then (if x19 < (x0.length : Int) then ((gold_Mul.f (rd x0 x19) x5).bind fun t212 => (chirp_divided.l0 k (x0.set (x19 : Int).toNat t212) x5 x18 (wrap64 (x19 + 1)))) else (none)) else (none)) else (some x0)
def chirp_divided.f (k : Nat) (l0 : List Int) (a1 : Int) : Option (List Int) := if a1 = 1 then ((gold_Inv.f k (IntKind.u64.wrap ((l0.length : Int)))).bind fun bt209 => (chirp_divided.l0 k l0 bt209.1 (l0.length : Int) 0)) else (some l0)
theorem chirp_divided.mono_l : ∀ k, (∀ y0 y1 y2 y3, LeO (chirp_divided.l0 k y0 y1 y2 y3) (chirp_divided.l0 (k + 1) y0 y1 y2 y3))
  | 0 => fun _ _ _ _ r h => by simp [chirp_divided.l0] at h
  | k + 1 => by
    have ih0 := chirp_divided.mono_l k
    · intro y0 y1 y2 y3
      unfold chirp_divided.l0
      repeat' first
      | (with_reducible exact ih0 _ _ _ _)
      | (with_reducible exact gold_Inv.mono _ _)
      | (with_reducible exact LeO.refl _)
      | (with_reducible exact LeO.none _)
      | (with_reducible refine LeO.ite ?_ ?_)
      | (with_reducible refine LeO.bind ?_ (fun _ => ?_))
      | exact ih0 _ _ _ _
      | exact gold_Inv.mono _ _
      | exact LeO.none _
      | refine LeO.ite ?_ ?_
      | refine LeO.bind ?_ (fun _ => ?_)
theorem chirp_divided.mono : ∀ a0 a1 k, LeO (chirp_divided.f k a0 a1) (chirp_divided.f (k + 1) a0 a1) := by
  intro a0 a1 k
  have ih0 := chirp_divided.mono_l k
  unfold chirp_divided.f
  repeat' first
      | (with_reducible exact ih0 _ _ _ _)
      | (with_reducible exact gold_Inv.mono _ _)
      | (with_reducible exact LeO.refl _)
      | (with_reducible exact LeO.none _)
      | (with_reducible refine LeO.ite ?_ ?_)
      | (with_reducible refine LeO.bind ?_ (fun _ => ?_))
      | exact ih0 _ _ _ _
      | exact gold_Inv.mono _ _
      | exact LeO.none _
      | refine LeO.ite ?_ ?_
      | refine LeO.bind ?_ (fun _ => ?_)
set_option maxHeartbeats 8000000 in
set_option maxRecDepth 100000 in
theorem chirp_divided.calls (k : Nat) (P0_ : Nat → Prop) (u9000_ : Value) (l0 : List Int) (a1 : Int) (r : List Int) (w0 w : World) (hB : Below w0.heap.size w0 w) (ho0 : Kd.R (Kd.int .u64) 23 w w0.heap.size P0_ u9000_ l0) (h : chirp_divided.f k l0 a1 = some r) :
    Calls Tryd.prog 32 #[u9000_, .int .i64 a1] w fun e w' => ∃ v0_ : Value, e = .returned (v0_) ∧ Kd.R (Kd.int .u64) 23 w' w0.heap.size (fun k_ => (P0_ k_ ∨ w.heap.size ≤ k_)) v0_ r ∧ Below w0.heap.size w0 w' ∧ Kept w w' (fun k_ => P0_ k_) := by
  have HO0 := Aside0.mk (show Kd.R (Kd.int .u64) 23 w w0.heap.size (fun k_ => (P0_ k_ ∨ w.heap.size ≤ k_)) u9000_ l0 from Kd.R_mono ho0 (fun k_ hk => (.inl hk)))
  have HK := Aside0.mk (Kept.refl w (fun k_ => P0_ k_))
  have HW0 := Aside0.mk hB.size
  have HB := Aside0.mk hB
  clear hB
  have H : (if a1 = 1 then ((gold_Inv.f k (IntKind.u64.wrap ((l0.length : Int)))).bind fun bt209 => (chirp_divided.l0 k l0 bt209.1 (l0.length : Int) 0)) else (some l0)) = some r := h
  clear h
  by_cases c3 : a1 = 1
  · rw [if_pos c3] at H
    have c3b0 : (a1 == 1) = true := beq_iff_eq.mpr c3
    have c3b1 : (a1 != 1) = false := bne_eq_false_iff_eq.mpr c3
    clear c3
    replace H := Option.bind_eq_some_iff.mp H
    obtain ⟨⟨t209, t210⟩, A40, H⟩ := H
    replace H : (chirp_divided.l0 k l0 t209 (l0.length : Int) 0) = some r := H
    have A4 := Aside0.mk A40
    clear A40
    have H' := Aside0.mk H
    clear H
    obtain ⟨Ao5, co5, eo5⟩ := Kd.R_slice HO0.out
    subst eo5
    go_enter Tryd.func32, Tryd.ntmps32
    go_wp2_with (first | ((with_reducible refine gate_callee (f := 25) rfl ?_); refine goesL_ (some 14) rfl rfl Tryd.func25 (by kernel_rfl) rfl #[.int .u64 (IntKind.u64.wrap ((l0.length : Int)))] rfl (by (try simp only [List.map_toArray, List.map_cons, List.map_nil]); first | done | rfl | (simp only [List.length_drop, List.length_take]; rfl)) ?_; (with_reducible refine (gold_Inv.calls k (IntKind.u64.wrap ((l0.length : Int))) t209 t210 _ A4.out).mono ?_); rintro e w6 ⟨rfl, hb⟩; refine ⟨_, rfl, ?_⟩; have n0_ := Aside0.mk (Kd.R_below (by (with_reducible repeat (first | apply Kd.R_alloc | apply Kd.R_drewN | apply Kd.R_drew)); exact HO0.out) hb); have n1_ := Aside0.mk (Kept.below (S := (fun k_ => P0_ k_)) (by repeat (first | (with_reducible first | exact HK.out | apply Kept.alloc | apply Kept.drewN | apply Kept.drew) | exact HK.out)) hb); have n2_ := Aside0.mk (below_step (by repeat (first | (with_reducible first | exact HB.out | apply below_alloc | apply pw_below_drewN | apply below_drew1) | exact HB.out)) hb); clear HO0; clear HK; clear HB; have HO0 := n0_; have HK := n1_; have HB := n2_; clear n0_ n1_ n2_; (try clear hb); (try clear hb2); (try clear hk); (try clear hi)))
    go_loopg [19] k (fun kq v19 w' => ∃ (x0_1 : List Int) (x19_1 : Int), v19 = .int .i64 x19_1 ∧ Aside0 (chirp_divided.l0 kq x0_1 t209 (l0.length : Int) x19_1 = some r) ∧ Aside0 (kq ≤ k) ∧ Aside0 (Kd.R (Kd.int .u64) 23 w' w0.heap.size (fun k_ => (P0_ k_ ∨ w.heap.size ≤ k_)) (.slice Ao5 l0.length co5) x0_1) ∧ Aside0 (Kept w w' (fun k_ => P0_ k_)) ∧ Aside0 (Below w0.heap.size w0 w'))
    case atStart => exact ⟨(l0), (0), (by first | rfl | (simp; done) | (simp [*]; done)), H', ⟨Nat.le_refl _⟩, ⟨by (with_reducible repeat (first | apply Kd.R_alloc | apply Kd.R_drewN | apply Kd.R_drew)); exact HO0.out⟩, ⟨by repeat (first | (with_reducible first | exact HK.out | apply Kept.alloc | apply Kept.drewN | apply Kept.drew) | exact HK.out)⟩, ⟨by repeat (first | (with_reducible first | exact HB.out | apply below_alloc | apply pw_below_drewN | apply below_drew1) | exact HB.out)⟩⟩
    case round =>
      clear H'
      try clear c2
      try clear p2
      try clear c3
      try clear c3b0
      try clear c3b1
      obtain ⟨x0_1, x19_1, rfl, HA, HK1, HO_0, HK, HB⟩ := hrel
      have hl0_1 := (Kd.R_reads' HO_0.out).1
      rw [hl0_1] at HO_0
      (try simp only [hl0_1])
      cases gk with
      | zero => exact absurd HA.out (by simp [chirp_divided.l0])
      | succ k1 =>
        have H := HA.out
        clear HA
        simp only [chirp_divided.l0] at H
        by_cases c7 : x19_1 < (l0.length : Int)
        · rw [if_pos c7] at H
          have c7b0 : decide (x19_1 < (l0.length : Int)) = true := decide_eq_true c7
          (try (have c7b0_0 := c7b0; simp only [hl0_1] at c7b0_0))
          clear c7
          by_cases c8 : 0 ≤ x19_1
          · rw [if_pos c8] at H
            have c8b0 : decide (0 ≤ x19_1) = true := decide_eq_true c8
            clear c8
            by_cases c9 : x19_1 < (x0_1.length : Int)
            · rw [if_pos c9] at H
              have c9b0 : decide (x19_1 < (x0_1.length : Int)) = true := decide_eq_true c9
              (try (have c9b0_0 := c9b0; simp only [hl0_1] at c9b0_0))
              clear c9
              replace H := Option.bind_eq_some_iff.mp H
              obtain ⟨t212, A100, H⟩ := H
              replace H : (chirp_divided.l0 k1 (x0_1.set (x19_1 : Int).toNat t212) t209 (l0.length : Int) (wrap64 (x19_1 + 1))) = some r := H
              have A10 := Aside0.mk A100
              clear A100
              obtain ⟨y213, hy213⟩ : ∃ y_ : List Int, y_ = (x0_1.set (x19_1 : Int).toNat t212) := ⟨_, rfl⟩
              replace H : (chirp_divided.l0 k1 y213 t209 (l0.length : Int) (wrap64 (x19_1 + 1))) = some r := by first | (rw [hy213]; with_reducible exact H) | (have H2_ := (Option.bind_some _ _).symm.trans H; rw [hy213]; with_reducible exact H2_) | (have H2_ := (Option.bind_some _ _).symm.trans H; with_reducible exact H2_) | with_reducible exact H | (rw [hy213]; exact H) | exact H
              have Ny213 := Aside0.mk hy213
              clear hy213
              have H' := Aside0.mk H
              clear H
              have p211 : 0 ≤ (x19_1 : Int) := of_decide_eq_true (by first | (with_reducible assumption) | assumption)
              have q211 : x19_1 < (x0_1.length : Int) := of_decide_eq_true (by first | (with_reducible assumption) | assumption)
              (try (first | (have hq_ := Kd.R_reads' HO_0.out; clear hq_) | (obtain ⟨AoQ211, coQ211, eoQ211⟩ := Kd.R_slice HO_0.out; subst eoQ211)))
              obtain ⟨ad211, e211, hx211_0⟩ := Kd.at_int (Kd.R_reads' HO_0.out).2.2 x19_1 p211 q211
              cases e211
              replace p211 := eq_true p211
              replace q211 := eq_true q211
              go_wp2_with (first | ((with_reducible refine gate_callee (f := 40) rfl ?_); refine goesL_ (some 29) rfl rfl Tryd.func40 (by kernel_rfl) rfl #[.int .u64 (rd x0_1 x19_1), .int .u64 t209] rfl (by (try simp only [List.map_toArray, List.map_cons, List.map_nil]); first | done | rfl | (simp only [List.length_drop, List.length_take]; rfl)) ?_; (with_reducible refine (gold_Mul.calls (rd x0_1 x19_1) t209 t212 _ A10.out).mono ?_); rintro e w12 ⟨rfl, hb⟩; refine ⟨_, rfl, ?_⟩; have n0_ := Aside0.mk (Kd.R_below (by (with_reducible repeat (first | apply Kd.R_alloc | apply Kd.R_drewN | apply Kd.R_drew)); exact HO_0.out) hb); have n1_ := Aside0.mk (Kept.below (S := (fun k_ => P0_ k_)) (by repeat (first | (with_reducible first | exact HK.out | apply Kept.alloc | apply Kept.drewN | apply Kept.drew) | exact HK.out)) hb); have n2_ := Aside0.mk (below_step (by repeat (first | (with_reducible first | exact HB.out | apply below_alloc | apply pw_below_drewN | apply below_drew1) | exact HB.out)) hb); clear HO_0; clear HK; clear HB; have HO_0 := n0_; have HK := n1_; have HB := n2_; clear n0_ n1_ n2_; (try clear hb); (try clear hb2); (try clear hk); (try clear hi); have p11 : 0 ≤ (x19_1 : Int) := of_decide_eq_true (by first | (with_reducible assumption) | assumption); have q11 : (x19_1 : Int) < ((x0_1.length : Int) : Int) := of_decide_eq_true (by first | (with_reducible assumption) | assumption); obtain ⟨go11, co11, eo11, gb11, gl11, cl11, HG11⟩ := Kd.R_form HO_0.out (by omega); (first | cases eo11 | (injection eo11 with ea_ en_ ec_; (first | subst ea_ | (injection ea_ with ea_; subst ea_)); subst ec_; clear en_)); have GB11 := Aside0.mk gb11; have GG11 := Aside0.mk HG11; clear gb11 gl11 HG11; have HMgo11 := Aside0.mk (show (P0_ go11 ∨ w.heap.size ≤ go11) from (HO_0.out.1 _ rfl)); (first | simp only [add_plain] at hx211_0 | skip); obtain ⟨hx11_0, hf11_0⟩ := Kd.R_celln 0 HO_0.out (x19_1 : Int) p11 q11; replace p11 := eq_true p11; replace q11 := eq_true q11; obtain ⟨hy13_, hz13_⟩ := Kd.R_celln 0 HO_0.out (x19_1 : Int) (of_decide_eq_true (by first | (with_reducible assumption) | assumption)) (of_decide_eq_true (by first | (with_reducible assumption) | assumption)); have HP13 := Kd.R_putg HO_0.out (x19_1 : Int) t212) | ((with_reducible refine gate_store (t := 23) (p := 30) rfl ?_); refine store_event (t := 23) (p := 30) (v := ?vo_w14) (w1 := (w12.setCell ⟨go11, (x19_1 : Int).toNat, none⟩ (.int .u64 t212))) ?hg ?ho ?hn ?hr ?_; (case ho => rfl); (case hg => rfl); (case hn => rfl); (case hr => first | (go_simp; done) | (go_simp; rfl)); intro w14 hw; have hg : w12.grownBy w14 (some go11) := (by rw [hw]; exact HP13.2); have hp_ : Kd.R (Kd.int .u64) 23 w14 w0.heap.size (fun k_ => (P0_ k_ ∨ w.heap.size ≤ k_)) (.slice (some ⟨go11, 0, none⟩) x0_1.length co5) y213 := (by rw [hw, Ny213.out]; exact HP13.1); clear HP13; have n0_ := Aside0.mk (hp_); have n1_ := Aside0.mk ((by rw [hw]; exact below_set (HB.out) GB11.out : Below w0.heap.size w0 w14)); have n2_ := Aside0.mk (Kept.of_grown (S := (fun k_ => P0_ k_)) hg (by repeat (first | (with_reducible first | exact HK.out | apply Kept.alloc | apply Kept.drewN | apply Kept.drew) | exact HK.out)) (fun k_ e_ => (HO_0.out.1 k_ e_))); clear HO_0; clear HB; clear HK; have HO_0 := n0_; have HB := n1_; have HK := n2_; clear n0_ n1_ n2_; clear hg hw hp_))
              (try simp only [← hl0_1])
              (first | go_roundg k1 | (simp only [add_plain] at *; go_roundg k1))
              case measure => have := HK1.out; omega
              case rel => exact ⟨(y213), (wrap64 (x19_1 + 1)), (by first | rfl | (simp; done) | (simp [*]; done)), H', ⟨by have := HK1.out; omega⟩, ⟨by (try simp only [hl0_1]); (with_reducible repeat (first | apply Kd.R_alloc | apply Kd.R_drewN | apply Kd.R_drew)); exact HO_0.out⟩, ⟨by repeat (first | (with_reducible first | exact HK.out | apply Kept.alloc | apply Kept.drewN | apply Kept.drew) | exact HK.out)⟩, ⟨by repeat (first | (with_reducible first | exact HB.out | apply below_alloc | apply pw_below_drewN | apply below_drew1) | exact HB.out)⟩⟩
            · rw [if_neg c9] at H
              exact absurd H (by simp)
          · rw [if_neg c8] at H
            exact absurd H (by simp)
        · rw [if_neg c7] at H
          have c7b0 : decide (x19_1 < (l0.length : Int)) = false := decide_eq_false c7
          (try (have c7b0_0 := c7b0; simp only [hl0_1] at c7b0_0))
          clear c7
          obtain rfl := Option.some.inj H
          go_wp2
          go_ret
          exact ⟨_, by first | rfl | (simp [errW_none, errW_some] <;> rfl) | (simp [*, errW_none, errW_some] <;> rfl), by (with_reducible repeat (first | apply Kd.R_alloc | apply Kd.R_drewN | apply Kd.R_drew)); exact HO_0.out, by repeat (first | (with_reducible first | exact HB.out | apply below_alloc | apply pw_below_drewN | apply below_drew1) | exact HB.out), by repeat (first | (with_reducible first | exact HK.out | apply Kept.alloc | apply Kept.drewN | apply Kept.drew) | exact HK.out)⟩
  · rw [if_neg c3] at H
    have c3b0 : (a1 == 1) = false := beq_eq_false_iff_ne.mpr c3
    have c3b1 : (a1 != 1) = true := bne_iff_ne.mpr c3
    obtain rfl := Option.some.inj H
    go_enter Tryd.func32, Tryd.ntmps32
    go_wp2
    go_ret
    exact ⟨_, by first | rfl | (simp [errW_none, errW_some] <;> rfl) | (simp [*, errW_none, errW_some] <;> rfl), by (with_reducible repeat (first | apply Kd.R_alloc | apply Kd.R_drewN | apply Kd.R_drew)); exact HO0.out, by repeat (first | (with_reducible first | exact HB.out | apply below_alloc | apply pw_below_drewN | apply below_drew1) | exact HB.out), by repeat (first | (with_reducible first | exact HK.out | apply Kept.alloc | apply Kept.drewN | apply Kept.drew) | exact HK.out)⟩

/-! ### chirp_Chirp: function 19 -/
def chirp_Chirp.f (k : Nat) (l0 : List Int) (a1 : Int) : Option (List Int × Int) := (chirp_Root.f k (l0.length : Int) a1).bind fun bt214 => (if bt214.2 = 0 then ((gold_Inv.f k bt214.1).bind fun bt216 => ((chirp_values.f k l0 bt214.1 bt216.1 (l0.length : Int)).bind fun t218 => ((chirp_divided.f k t218 a1).bind fun t221 => (some (t221, 0))))) else (some (([] : List Int), bt214.2)))
theorem chirp_Chirp.mono : ∀ a0 a1 k, LeO (chirp_Chirp.f k a0 a1) (chirp_Chirp.f (k + 1) a0 a1) := by
  intro a0 a1 k
  unfold chirp_Chirp.f
  repeat' first
      | (with_reducible exact chirp_Root.mono _ _ _)
      | (with_reducible exact chirp_divided.mono _ _ _)
      | (with_reducible exact chirp_values.mono _ _ _ _ _)
      | (with_reducible exact gold_Inv.mono _ _)
      | (with_reducible exact LeO.refl _)
      | (with_reducible exact LeO.none _)
      | (with_reducible refine LeO.ite ?_ ?_)
      | (with_reducible refine LeO.bind ?_ (fun _ => ?_))
      | exact chirp_Root.mono _ _ _
      | exact chirp_divided.mono _ _ _
      | exact chirp_values.mono _ _ _ _ _
      | exact gold_Inv.mono _ _
      | exact LeO.none _
      | refine LeO.ite ?_ ?_
      | refine LeO.bind ?_ (fun _ => ?_)
set_option maxHeartbeats 8000000 in
set_option maxRecDepth 100000 in
theorem chirp_Chirp.calls (k : Nat) (A0 : Option Addr) (c0 : Nat) (l0 : List Int) (a1 : Int) (r1 : List Int) (r2 : Int) (w : World) (hr0 : Kd.C (Kd.int .u64) w A0 l0.length l0) (hc0 : l0.length ≤ c0) (hG : Aside0 (TzTab w)) (h : chirp_Chirp.f k l0 a1 = some (r1, r2)) :
    Calls Tryd.prog 19 #[.slice A0 l0.length c0, .int .i64 a1] w fun e w' => ∃ v0_ : Value, e = .returned (.tuple #[v0_, .int .i64 r2]) ∧ Kd.R (Kd.int .u64) 23 w' w.heap.size (fun _ => True) v0_ r1 ∧ Below w.heap.size w w' := by
  have HR0 := Aside0.mk hr0
  have HC0 := Aside0.mk hc0
  clear hr0 hc0
  have HB := Aside0.mk (Below.refl w.heap.size w)
  have H : ((chirp_Root.f k (l0.length : Int) a1).bind fun bt214 => (if bt214.2 = 0 then ((gold_Inv.f k bt214.1).bind fun bt216 => ((chirp_values.f k l0 bt214.1 bt216.1 (l0.length : Int)).bind fun t218 => ((chirp_divided.f k t218 a1).bind fun t221 => (some (t221, 0))))) else (some (([] : List Int), bt214.2)))) = some (r1, r2) := h
  clear h
  replace H := Option.bind_eq_some_iff.mp H
  obtain ⟨⟨t214, t215⟩, A30, H⟩ := H
  replace H : (if t215 = 0 then ((gold_Inv.f k t214).bind fun bt216 => ((chirp_values.f k l0 t214 bt216.1 (l0.length : Int)).bind fun t218 => ((chirp_divided.f k t218 a1).bind fun t221 => (some (t221, 0))))) else (some (([] : List Int), t215))) = some (r1, r2) := H
  have A3 := Aside0.mk A30
  clear A30
  by_cases c4 : t215 = 0
  · rw [if_pos c4] at H
    have c4b0 : (t215 == 0) = true := beq_iff_eq.mpr c4
    have c4b1 : (t215 != 0) = false := bne_eq_false_iff_eq.mpr c4
    clear c4
    replace H := Option.bind_eq_some_iff.mp H
    obtain ⟨⟨t216, t217⟩, A50, H⟩ := H
    replace H : ((chirp_values.f k l0 t214 t216 (l0.length : Int)).bind fun t218 => ((chirp_divided.f k t218 a1).bind fun t221 => (some (t221, 0)))) = some (r1, r2) := H
    have A5 := Aside0.mk A50
    clear A50
    replace H := Option.bind_eq_some_iff.mp H
    obtain ⟨t218, A60, H⟩ := H
    replace H : ((chirp_divided.f k t218 a1).bind fun t221 => (some (t221, 0))) = some (r1, r2) := H
    have A6 := Aside0.mk A60
    clear A60
    replace H := Option.bind_eq_some_iff.mp H
    obtain ⟨t221, A70, H⟩ := H
    replace H : (some (t221, 0)) = some (r1, r2) := H
    have A7 := Aside0.mk A70
    clear A70
    simp only [Option.some.injEq, Prod.mk.injEq] at H
    obtain ⟨rfl, rfl⟩ := H
    go_enter Tryd.func19, Tryd.ntmps19
    go_wp2_with (first | ((with_reducible refine gate_callee (f := 14) rfl ?_); refine goesL_ (some 14) rfl rfl Tryd.func14 (by kernel_rfl) rfl #[.int .i64 (l0.length : Int), .int .i64 a1] rfl (by (try simp only [List.map_toArray, List.map_cons, List.map_nil]); first | done | rfl | (simp only [List.length_drop, List.length_take]; rfl)) ?_; (with_reducible refine (chirp_Root.calls k (l0.length : Int) a1 t214 t215 _ A3.out).mono ?_); rintro e w8 ⟨rfl, hb⟩; refine ⟨_, rfl, ?_⟩; have n0_ := Aside0.mk (below_step (by repeat (first | (with_reducible first | exact HB.out | apply below_alloc | apply pw_below_drewN | apply below_drew1) | exact HB.out)) hb); clear HB; have HB := n0_; clear n0_; (try clear hb); (try clear hb2); (try clear hk); (try clear hi)) | ((with_reducible refine gate_callee (f := 25) rfl ?_); refine goesL_ (some 22) rfl rfl Tryd.func25 (by kernel_rfl) rfl #[.int .u64 t214] rfl (by (try simp only [List.map_toArray, List.map_cons, List.map_nil]); first | done | rfl | (simp only [List.length_drop, List.length_take]; rfl)) ?_; (with_reducible refine (gold_Inv.calls k t214 t216 t217 _ A5.out).mono ?_); rintro e w9 ⟨rfl, hb⟩; refine ⟨_, rfl, ?_⟩; have n0_ := Aside0.mk (below_step (by repeat (first | (with_reducible first | exact HB.out | apply below_alloc | apply pw_below_drewN | apply below_drew1) | exact HB.out)) hb); clear HB; have HB := n0_; clear n0_; (try clear hb); (try clear hb2); (try clear hk); (try clear hi)) | ((with_reducible refine gate_callee (f := 26) rfl ?_); refine goesL_ (some 30) rfl rfl Tryd.func26 (by kernel_rfl) rfl #[.slice A0 l0.length c0, .int .u64 t214, .int .u64 t216, .int .i64 (l0.length : Int)] rfl (by (try simp only [List.map_toArray, List.map_cons, List.map_nil]); first | done | rfl | (simp only [List.length_drop, List.length_take]; rfl)) ?_; (with_reducible refine (chirp_values.calls k _ _ l0 t214 t216 (l0.length : Int) t218 _ ?side1 ?side2 ?sideG A6.out).mono ?_); (case sideG => first | exact hG | exact ⟨hG.out⟩ | exact ⟨hG.out.below (by repeat (first | (with_reducible first | exact HB.out | apply below_alloc | apply pw_below_drewN | apply below_drew1) | exact HB.out))⟩); (case side1 => repeat (first | exact (Kd.C_below HR0.out HB.out) | (with_reducible refine Kd.C_alloc ?_ _) | (with_reducible refine Kd.C_drewN ?_ _) | (with_reducible refine Kd.C_drew ?_))); (case side2 => exact HC0.out); rintro e w10 ⟨v219, rfl, ho0, hb⟩; refine ⟨_, rfl, ?_⟩; have n0_ := Aside0.mk (Kd.R_lower ho0 (below_size (by repeat (first | (with_reducible first | exact HB.out | apply below_alloc | apply pw_below_drewN | apply below_drew1) | exact HB.out)))); have n1_ := Aside0.mk (below_step (by repeat (first | (with_reducible first | exact HB.out | apply below_alloc | apply pw_below_drewN | apply below_drew1) | exact HB.out)) hb); clear HB; have HO220 := n0_; have HB := n1_; clear n0_ n1_; (try clear hb); (try clear hb2); (try clear hk); (try clear hi); (try clear ho0); obtain ⟨Ao11, co11, eo11⟩ := Kd.R_slice HO220.out; subst eo11) | ((with_reducible refine gate_callee (f := 32) rfl ?_); refine goesL_ (some 32) rfl rfl Tryd.func32 (by kernel_rfl) rfl #[.slice Ao11 t218.length co11, .int .i64 a1] rfl (by (try simp only [List.map_toArray, List.map_cons, List.map_nil]); first | done | rfl | (simp only [List.length_drop, List.length_take]; rfl)) ?_; (with_reducible refine (chirp_divided.calls k (fun k_ => some k_ = (.slice Ao11 t218.length co11 : Value).ownBlock) (.slice Ao11 t218.length co11) t218 a1 t221 w _ ?side1 ?side2 A7.out).mono ?_); (case side1 => repeat (first | (with_reducible first | exact HB.out | apply below_alloc | apply pw_below_drewN | apply below_drew1) | exact HB.out)); (case side2 => exact Kd.R_tight rfl HO220.out); rintro e w12 ⟨v222, rfl, ho0, hb, hkp⟩; refine ⟨_, rfl, ?_⟩; have n0_ := Aside0.mk (Kd.R_mono (ok' := fun k_ => True) ho0 (fun k_ hk_ => trivial)); have n1_ := Aside0.mk (hb); clear HB; clear HO220; have HO223 := n0_; have HB := n1_; clear n0_ n1_; (try clear hb); (try clear hkp); (try clear ho0)))
    go_ret2
    exact ⟨_, by first | rfl | (simp [errW_none, errW_some] <;> rfl) | (simp [*, errW_none, errW_some] <;> rfl), by (with_reducible repeat (first | apply Kd.R_alloc | apply Kd.R_drewN | apply Kd.R_drew)); exact HO223.out, by repeat (first | (with_reducible first | exact HB.out | apply below_alloc | apply pw_below_drewN | apply below_drew1) | exact HB.out)⟩
  · rw [if_neg c4] at H
    have c4b0 : (t215 == 0) = false := beq_eq_false_iff_ne.mpr c4
    have c4b1 : (t215 != 0) = true := bne_iff_ne.mpr c4
    simp only [Option.some.injEq, Prod.mk.injEq] at H
    obtain ⟨rfl, rfl⟩ := H
    go_enter Tryd.func19, Tryd.ntmps19
    go_wp2_with (first | ((with_reducible refine gate_callee (f := 14) rfl ?_); refine goesL_ (some 14) rfl rfl Tryd.func14 (by kernel_rfl) rfl #[.int .i64 (l0.length : Int), .int .i64 a1] rfl (by (try simp only [List.map_toArray, List.map_cons, List.map_nil]); first | done | rfl | (simp only [List.length_drop, List.length_take]; rfl)) ?_; (with_reducible refine (chirp_Root.calls k (l0.length : Int) a1 t214 t215 _ A3.out).mono ?_); rintro e w13 ⟨rfl, hb⟩; refine ⟨_, rfl, ?_⟩; have n0_ := Aside0.mk (below_step (by repeat (first | (with_reducible first | exact HB.out | apply below_alloc | apply pw_below_drewN | apply below_drew1) | exact HB.out)) hb); clear HB; have HB := n0_; clear n0_; (try clear hb); (try clear hb2); (try clear hk); (try clear hi)))
    go_ret2
    exact ⟨_, by first | rfl | (simp [errW_none, errW_some] <;> rfl) | (simp [*, errW_none, errW_some] <;> rfl), by first | exact Kd.R_nil _ _ _ _ _ | exact Kd.N_nil _ _ _ _ _ | exact Kd.V_nil _ _ _ _ _ | exact Kd.Q_nil _ _ _ _ _ | exact Kd.S_nil _ _ _ _ _, by repeat (first | (with_reducible first | exact HB.out | apply below_alloc | apply pw_below_drewN | apply below_drew1) | exact HB.out)⟩

/-! ### abacistlaw29_awake: function 7 -/
def abacistlaw29_awake.f (k : Nat)  : Option (Bool) := (chirp_Chirp.f k (([1, 0, 0] : List Int)) 0).bind fun bt227 => ((chirp_Goes.f 3).bind fun t231 => (if t231 = true then ((chirp_Goes.f 15).bind fun t232 => (if t232 = true then ((chirp_Goes.f 257).bind fun t233 => (if t233 = true then ((chirp_Goes.f 7).bind fun t234 => (if t234 = true then (some false) else ((chirp_Goes.f 9).bind fun t235 => (if t235 = true then (some false) else (if bt227.2 = 0 then ((abacistref04_Same.f k bt227.1 (([1, 1, 1] : List Int))).bind fun t239 => (some t239)) else (some false)))))) else (some false))) else (some false))) else (some false)))
theorem abacistlaw29_awake.mono : ∀ k, LeO (abacistlaw29_awake.f k ) (abacistlaw29_awake.f (k + 1) ) := by
  intro  k
  unfold abacistlaw29_awake.f
  repeat' first
      | (with_reducible exact abacistref04_Same.mono _ _ _)
      | (with_reducible exact chirp_Chirp.mono _ _ _)
      | (with_reducible exact LeO.refl _)
      | (with_reducible exact LeO.none _)
      | (with_reducible refine LeO.ite ?_ ?_)
      | (with_reducible refine LeO.bind ?_ (fun _ => ?_))
      | exact abacistref04_Same.mono _ _ _
      | exact chirp_Chirp.mono _ _ _
      | exact LeO.none _
      | refine LeO.ite ?_ ?_
      | refine LeO.bind ?_ (fun _ => ?_)
set_option maxHeartbeats 8000000 in
set_option maxRecDepth 100000 in
theorem abacistlaw29_awake.calls (k : Nat)  (r : Bool) (w : World) (hG : Aside0 (TzTab w)) (h : abacistlaw29_awake.f k  = some r) :
    Calls Tryd.prog 7 #[] w fun e w' => e = .returned (.bool r) ∧ Below w.heap.size w w' := by
  have HB := Aside0.mk (Below.refl w.heap.size w)
  have H : ((chirp_Chirp.f k (([1, 0, 0] : List Int)) 0).bind fun bt227 => ((chirp_Goes.f 3).bind fun t231 => (if t231 = true then ((chirp_Goes.f 15).bind fun t232 => (if t232 = true then ((chirp_Goes.f 257).bind fun t233 => (if t233 = true then ((chirp_Goes.f 7).bind fun t234 => (if t234 = true then (some false) else ((chirp_Goes.f 9).bind fun t235 => (if t235 = true then (some false) else (if bt227.2 = 0 then ((abacistref04_Same.f k bt227.1 (([1, 1, 1] : List Int))).bind fun t239 => (some t239)) else (some false)))))) else (some false))) else (some false))) else (some false)))) = some r := h
  clear h
  obtain ⟨y224, hy224⟩ : ∃ y_ : List Int, y_ = (([1, 0, 0] : List Int)) := ⟨_, rfl⟩
  replace H : ((chirp_Chirp.f k y224 0).bind fun bt227 => ((chirp_Goes.f 3).bind fun t231 => (if t231 = true then ((chirp_Goes.f 15).bind fun t232 => (if t232 = true then ((chirp_Goes.f 257).bind fun t233 => (if t233 = true then ((chirp_Goes.f 7).bind fun t234 => (if t234 = true then (some false) else ((chirp_Goes.f 9).bind fun t235 => (if t235 = true then (some false) else (if bt227.2 = 0 then ((abacistref04_Same.f k bt227.1 (([1, 1, 1] : List Int))).bind fun t239 => (some t239)) else (some false)))))) else (some false))) else (some false))) else (some false)))) = some r := by first | (rw [hy224]; with_reducible exact H) | (have H2_ := (Option.bind_some _ _).symm.trans H; rw [hy224]; with_reducible exact H2_) | (have H2_ := (Option.bind_some _ _).symm.trans H; with_reducible exact H2_) | with_reducible exact H | (rw [hy224]; exact H) | exact H
  have Ny224 := Aside0.mk hy224
  clear hy224
  replace H := Option.bind_eq_some_iff.mp H
  obtain ⟨⟨t227, t228⟩, A10, H⟩ := H
  replace H : ((chirp_Goes.f 3).bind fun t231 => (if t231 = true then ((chirp_Goes.f 15).bind fun t232 => (if t232 = true then ((chirp_Goes.f 257).bind fun t233 => (if t233 = true then ((chirp_Goes.f 7).bind fun t234 => (if t234 = true then (some false) else ((chirp_Goes.f 9).bind fun t235 => (if t235 = true then (some false) else (if t228 = 0 then ((abacistref04_Same.f k t227 (([1, 1, 1] : List Int))).bind fun t239 => (some t239)) else (some false)))))) else (some false))) else (some false))) else (some false))) = some r := H
  have A1 := Aside0.mk A10
  clear A10
  replace H := Option.bind_eq_some_iff.mp H
  obtain ⟨t231, A20, H⟩ := H
  replace H : (if t231 = true then ((chirp_Goes.f 15).bind fun t232 => (if t232 = true then ((chirp_Goes.f 257).bind fun t233 => (if t233 = true then ((chirp_Goes.f 7).bind fun t234 => (if t234 = true then (some false) else ((chirp_Goes.f 9).bind fun t235 => (if t235 = true then (some false) else (if t228 = 0 then ((abacistref04_Same.f k t227 (([1, 1, 1] : List Int))).bind fun t239 => (some t239)) else (some false)))))) else (some false))) else (some false))) else (some false)) = some r := H
  have A2 := Aside0.mk A20
  clear A20
  by_cases c3 : t231 = true
  · subst c3
    have H1 : ((chirp_Goes.f 15).bind fun t232 => (if t232 = true then ((chirp_Goes.f 257).bind fun t233 => (if t233 = true then ((chirp_Goes.f 7).bind fun t234 => (if t234 = true then (some false) else ((chirp_Goes.f 9).bind fun t235 => (if t235 = true then (some false) else (if t228 = 0 then ((abacistref04_Same.f k t227 (([1, 1, 1] : List Int))).bind fun t239 => (some t239)) else (some false)))))) else (some false))) else (some false))) = some r := by rw [if_pos rfl] at H; exact H
    clear H
    have H := H1
    clear H1
    replace H := Option.bind_eq_some_iff.mp H
    obtain ⟨t232, A40, H⟩ := H
    replace H : (if t232 = true then ((chirp_Goes.f 257).bind fun t233 => (if t233 = true then ((chirp_Goes.f 7).bind fun t234 => (if t234 = true then (some false) else ((chirp_Goes.f 9).bind fun t235 => (if t235 = true then (some false) else (if t228 = 0 then ((abacistref04_Same.f k t227 (([1, 1, 1] : List Int))).bind fun t239 => (some t239)) else (some false)))))) else (some false))) else (some false)) = some r := H
    have A4 := Aside0.mk A40
    clear A40
    by_cases c5 : t232 = true
    · subst c5
      have H1 : ((chirp_Goes.f 257).bind fun t233 => (if t233 = true then ((chirp_Goes.f 7).bind fun t234 => (if t234 = true then (some false) else ((chirp_Goes.f 9).bind fun t235 => (if t235 = true then (some false) else (if t228 = 0 then ((abacistref04_Same.f k t227 (([1, 1, 1] : List Int))).bind fun t239 => (some t239)) else (some false)))))) else (some false))) = some r := by rw [if_pos rfl] at H; exact H
      clear H
      have H := H1
      clear H1
      replace H := Option.bind_eq_some_iff.mp H
      obtain ⟨t233, A60, H⟩ := H
      replace H : (if t233 = true then ((chirp_Goes.f 7).bind fun t234 => (if t234 = true then (some false) else ((chirp_Goes.f 9).bind fun t235 => (if t235 = true then (some false) else (if t228 = 0 then ((abacistref04_Same.f k t227 (([1, 1, 1] : List Int))).bind fun t239 => (some t239)) else (some false)))))) else (some false)) = some r := H
      have A6 := Aside0.mk A60
      clear A60
      by_cases c7 : t233 = true
      · subst c7
        have H1 : ((chirp_Goes.f 7).bind fun t234 => (if t234 = true then (some false) else ((chirp_Goes.f 9).bind fun t235 => (if t235 = true then (some false) else (if t228 = 0 then ((abacistref04_Same.f k t227 (([1, 1, 1] : List Int))).bind fun t239 => (some t239)) else (some false)))))) = some r := by rw [if_pos rfl] at H; exact H
        clear H
        have H := H1
        clear H1
        replace H := Option.bind_eq_some_iff.mp H
        obtain ⟨t234, A80, H⟩ := H
        replace H : (if t234 = true then (some false) else ((chirp_Goes.f 9).bind fun t235 => (if t235 = true then (some false) else (if t228 = 0 then ((abacistref04_Same.f k t227 (([1, 1, 1] : List Int))).bind fun t239 => (some t239)) else (some false))))) = some r := H
        have A8 := Aside0.mk A80
        clear A80
        by_cases c9 : t234 = true
        · subst c9
          have H1 : (some false) = some r := by rw [if_pos rfl] at H; exact H
          clear H
          have H := H1
          clear H1
          obtain rfl := Option.some.inj H
          go_enter Tryd.func7, Tryd.ntmps7
          go_wp2_with (first | ((with_reducible refine gate_dst (N := 4) rfl ?_); (try (refine gate_guard (by rfl) ?_; dsimp only)); refine Kd.R_lit (Kd.int .u64) _ 23 ?hg (N := 4) ?hd (xs := ([1, 0, 0] : List Int)) (inner := [.int .u64 1, .int .u64 0, .int .u64 0]) (ok := fun _ => True) (okp := fun _ => True) ?hr ?hp (fun _ hk => hk) trivial (Below.refl _ _) (Nat.le_refl _) (by simp) ?_; (case hd => rfl); (case hg => rfl); (case hr => first | (go_simp; done) | (go_simp; rfl)); (case hp => exact (Reps.one (show Kd.M (Kd.int .u64) _ _ _ 1 [.int .u64 1] from rfl) (Reps.one (show Kd.M (Kd.int .u64) _ _ _ 0 [.int .u64 0] from rfl) (Reps.one (show Kd.M (Kd.int .u64) _ _ _ 0 [.int .u64 0] from rfl) (Reps.none _ _))))); intro v225 w10 ho11 hb hg_ hnew_; clear hg_ hnew_; (first | rw [← Ny224.out] at ho11 | (simp only [Int.reduceToNat] at ho11; rw [← Ny224.out] at ho11)); have n0_ := Aside0.mk (Kd.R_lower ho11 (below_size (by repeat (first | (with_reducible first | exact HB.out | apply below_alloc | apply pw_below_drewN | apply below_drew1) | exact HB.out)))); have n1_ := Aside0.mk (below_step (by repeat (first | (with_reducible first | exact HB.out | apply below_alloc | apply pw_below_drewN | apply below_drew1) | exact HB.out)) hb); clear HB; have HO226 := n0_; have HB := n1_; clear n0_ n1_; clear hb ho11; obtain ⟨Ao12, co12, eo12⟩ := Kd.R_slice HO226.out; subst eo12) | ((with_reducible refine gate_callee (f := 19) rfl ?_); refine goesL_ (some 5) rfl rfl Tryd.func19 (by kernel_rfl) rfl #[.slice Ao12 y224.length co12, .int .i64 0] rfl (by (try simp only [List.map_toArray, List.map_cons, List.map_nil]); first | done | rfl | (simp only [List.length_drop, List.length_take]; rfl)) ?_; (with_reducible refine (chirp_Chirp.calls k _ _ y224 0 t227 t228 _ ?side1 ?side2 ?sideG A1.out).mono ?_); (case sideG => first | exact hG | exact ⟨hG.out⟩ | exact ⟨hG.out.below (by repeat (first | (with_reducible first | exact HB.out | apply below_alloc | apply pw_below_drewN | apply below_drew1) | exact HB.out))⟩); (case side1 => repeat (first | exact (Kd.R_reads' HO226.out).2.2 | (with_reducible refine Kd.C_alloc ?_ _) | (with_reducible refine Kd.C_drewN ?_ _) | (with_reducible refine Kd.C_drew ?_))); (case side2 => exact (Kd.R_reads' HO226.out).2.1); rintro e w13 ⟨v229, rfl, ho0, hb⟩; refine ⟨_, rfl, ?_⟩; have n0_ := Aside0.mk (Kd.R_elder' (by (with_reducible repeat (first | apply Kd.R_alloc | apply Kd.R_drewN | apply Kd.R_drew)); exact HO226.out) (Kd.R_base ho0) hb); have n1_ := Aside0.mk (Kd.R_lower (Kd.R_new' ho0 (Kd.R_lt (by (with_reducible repeat (first | apply Kd.R_alloc | apply Kd.R_drewN | apply Kd.R_drew)); exact HO226.out))) (below_size (by repeat (first | (with_reducible first | exact HB.out | apply below_alloc | apply pw_below_drewN | apply below_drew1) | exact HB.out)))); have n2_ := Aside0.mk (below_step (by repeat (first | (with_reducible first | exact HB.out | apply below_alloc | apply pw_below_drewN | apply below_drew1) | exact HB.out)) hb); clear HO226; clear HB; have HO226 := n0_; have HO230 := n1_; have HB := n2_; clear n0_ n1_ n2_; (try clear hb); (try clear hb2); (try clear hk); (try clear hi); (try clear ho0)) | ((with_reducible refine gate_callee (f := 16) rfl ?_); refine goesL_ (some 8) rfl rfl Tryd.func16 (by kernel_rfl) rfl #[.int .i64 3] rfl (by (try simp only [List.map_toArray, List.map_cons, List.map_nil]); first | done | rfl | (simp only [List.length_drop, List.length_take]; rfl)) ?_; (with_reducible refine (chirp_Goes.calls 3 true _ A2.out).mono ?_); rintro e w' ⟨rfl, ⟨nd, rfl⟩⟩; refine ⟨_, rfl, ?_⟩) | (go_at_call 16; (with_reducible refine (chirp_Goes.calls 15 true _ A4.out).mono ?_); rintro e w' ⟨rfl, ⟨nd, rfl⟩⟩) | (go_at_call 16; (with_reducible refine (chirp_Goes.calls 257 true _ A6.out).mono ?_); rintro e w' ⟨rfl, ⟨nd, rfl⟩⟩) | (go_at_call 16; (with_reducible refine (chirp_Goes.calls 7 true _ A8.out).mono ?_); rintro e w' ⟨rfl, ⟨nd, rfl⟩⟩))
          go_ret
          exact ⟨by first | rfl | (simp [errW_none, errW_some] <;> rfl) | (simp [*, errW_none, errW_some] <;> rfl), by repeat (first | (with_reducible first | exact HB.out | apply below_alloc | apply pw_below_drewN | apply below_drew1) | exact HB.out)⟩
        · replace c9 := Bool.eq_false_iff.mpr c9
          subst c9
          have H1 : ((chirp_Goes.f 9).bind fun t235 => (if t235 = true then (some false) else (if t228 = 0 then ((abacistref04_Same.f k t227 (([1, 1, 1] : List Int))).bind fun t239 => (some t239)) else (some false)))) = some r := by rw [if_neg (show ¬ (false = true) by decide)] at H; exact H
          clear H
          have H := H1
          clear H1
          replace H := Option.bind_eq_some_iff.mp H
          obtain ⟨t235, A140, H⟩ := H
          replace H : (if t235 = true then (some false) else (if t228 = 0 then ((abacistref04_Same.f k t227 (([1, 1, 1] : List Int))).bind fun t239 => (some t239)) else (some false))) = some r := H
          have A14 := Aside0.mk A140
          clear A140
          by_cases c15 : t235 = true
          · subst c15
            have H1 : (some false) = some r := by rw [if_pos rfl] at H; exact H
            clear H
            have H := H1
            clear H1
            obtain rfl := Option.some.inj H
            go_enter Tryd.func7, Tryd.ntmps7
            go_wp2_with (first | ((with_reducible refine gate_dst (N := 4) rfl ?_); (try (refine gate_guard (by rfl) ?_; dsimp only)); refine Kd.R_lit (Kd.int .u64) _ 23 ?hg (N := 4) ?hd (xs := ([1, 0, 0] : List Int)) (inner := [.int .u64 1, .int .u64 0, .int .u64 0]) (ok := fun _ => True) (okp := fun _ => True) ?hr ?hp (fun _ hk => hk) trivial (Below.refl _ _) (Nat.le_refl _) (by simp) ?_; (case hd => rfl); (case hg => rfl); (case hr => first | (go_simp; done) | (go_simp; rfl)); (case hp => exact (Reps.one (show Kd.M (Kd.int .u64) _ _ _ 1 [.int .u64 1] from rfl) (Reps.one (show Kd.M (Kd.int .u64) _ _ _ 0 [.int .u64 0] from rfl) (Reps.one (show Kd.M (Kd.int .u64) _ _ _ 0 [.int .u64 0] from rfl) (Reps.none _ _))))); intro v225 w16 ho17 hb hg_ hnew_; clear hg_ hnew_; (first | rw [← Ny224.out] at ho17 | (simp only [Int.reduceToNat] at ho17; rw [← Ny224.out] at ho17)); have n0_ := Aside0.mk (Kd.R_lower ho17 (below_size (by repeat (first | (with_reducible first | exact HB.out | apply below_alloc | apply pw_below_drewN | apply below_drew1) | exact HB.out)))); have n1_ := Aside0.mk (below_step (by repeat (first | (with_reducible first | exact HB.out | apply below_alloc | apply pw_below_drewN | apply below_drew1) | exact HB.out)) hb); clear HB; have HO226 := n0_; have HB := n1_; clear n0_ n1_; clear hb ho17; obtain ⟨Ao18, co18, eo18⟩ := Kd.R_slice HO226.out; subst eo18) | ((with_reducible refine gate_callee (f := 19) rfl ?_); refine goesL_ (some 5) rfl rfl Tryd.func19 (by kernel_rfl) rfl #[.slice Ao18 y224.length co18, .int .i64 0] rfl (by (try simp only [List.map_toArray, List.map_cons, List.map_nil]); first | done | rfl | (simp only [List.length_drop, List.length_take]; rfl)) ?_; (with_reducible refine (chirp_Chirp.calls k _ _ y224 0 t227 t228 _ ?side1 ?side2 ?sideG A1.out).mono ?_); (case sideG => first | exact hG | exact ⟨hG.out⟩ | exact ⟨hG.out.below (by repeat (first | (with_reducible first | exact HB.out | apply below_alloc | apply pw_below_drewN | apply below_drew1) | exact HB.out))⟩); (case side1 => repeat (first | exact (Kd.R_reads' HO226.out).2.2 | (with_reducible refine Kd.C_alloc ?_ _) | (with_reducible refine Kd.C_drewN ?_ _) | (with_reducible refine Kd.C_drew ?_))); (case side2 => exact (Kd.R_reads' HO226.out).2.1); rintro e w19 ⟨v229, rfl, ho0, hb⟩; refine ⟨_, rfl, ?_⟩; have n0_ := Aside0.mk (Kd.R_elder' (by (with_reducible repeat (first | apply Kd.R_alloc | apply Kd.R_drewN | apply Kd.R_drew)); exact HO226.out) (Kd.R_base ho0) hb); have n1_ := Aside0.mk (Kd.R_lower (Kd.R_new' ho0 (Kd.R_lt (by (with_reducible repeat (first | apply Kd.R_alloc | apply Kd.R_drewN | apply Kd.R_drew)); exact HO226.out))) (below_size (by repeat (first | (with_reducible first | exact HB.out | apply below_alloc | apply pw_below_drewN | apply below_drew1) | exact HB.out)))); have n2_ := Aside0.mk (below_step (by repeat (first | (with_reducible first | exact HB.out | apply below_alloc | apply pw_below_drewN | apply below_drew1) | exact HB.out)) hb); clear HO226; clear HB; have HO226 := n0_; have HO230 := n1_; have HB := n2_; clear n0_ n1_ n2_; (try clear hb); (try clear hb2); (try clear hk); (try clear hi); (try clear ho0)) | ((with_reducible refine gate_callee (f := 16) rfl ?_); refine goesL_ (some 8) rfl rfl Tryd.func16 (by kernel_rfl) rfl #[.int .i64 3] rfl (by (try simp only [List.map_toArray, List.map_cons, List.map_nil]); first | done | rfl | (simp only [List.length_drop, List.length_take]; rfl)) ?_; (with_reducible refine (chirp_Goes.calls 3 true _ A2.out).mono ?_); rintro e w' ⟨rfl, ⟨nd, rfl⟩⟩; refine ⟨_, rfl, ?_⟩) | (go_at_call 16; (with_reducible refine (chirp_Goes.calls 15 true _ A4.out).mono ?_); rintro e w' ⟨rfl, ⟨nd, rfl⟩⟩) | (go_at_call 16; (with_reducible refine (chirp_Goes.calls 257 true _ A6.out).mono ?_); rintro e w' ⟨rfl, ⟨nd, rfl⟩⟩) | (go_at_call 16; (with_reducible refine (chirp_Goes.calls 7 false _ A8.out).mono ?_); rintro e w' ⟨rfl, ⟨nd, rfl⟩⟩) | (go_at_call 16; (with_reducible refine (chirp_Goes.calls 9 true _ A14.out).mono ?_); rintro e w' ⟨rfl, ⟨nd, rfl⟩⟩))
            go_ret
            exact ⟨by first | rfl | (simp [errW_none, errW_some] <;> rfl) | (simp [*, errW_none, errW_some] <;> rfl), by repeat (first | (with_reducible first | exact HB.out | apply below_alloc | apply pw_below_drewN | apply below_drew1) | exact HB.out)⟩
          · replace c15 := Bool.eq_false_iff.mpr c15
            subst c15
            have H1 : (if t228 = 0 then ((abacistref04_Same.f k t227 (([1, 1, 1] : List Int))).bind fun t239 => (some t239)) else (some false)) = some r := by rw [if_neg (show ¬ (false = true) by decide)] at H; exact H
            clear H
            have H := H1
            clear H1
            by_cases c20 : t228 = 0
            · rw [if_pos c20] at H
              have c20b0 : (t228 == 0) = true := beq_iff_eq.mpr c20
              have c20b1 : (t228 != 0) = false := bne_eq_false_iff_eq.mpr c20
              clear c20
              obtain ⟨y236, hy236⟩ : ∃ y_ : List Int, y_ = (([1, 1, 1] : List Int)) := ⟨_, rfl⟩
              replace H : ((abacistref04_Same.f k t227 y236).bind fun t239 => (some t239)) = some r := by first | (rw [hy236]; with_reducible exact H) | (have H2_ := (Option.bind_some _ _).symm.trans H; rw [hy236]; with_reducible exact H2_) | (have H2_ := (Option.bind_some _ _).symm.trans H; with_reducible exact H2_) | with_reducible exact H | (rw [hy236]; exact H) | exact H
              have Ny236 := Aside0.mk hy236
              clear hy236
              replace H := Option.bind_eq_some_iff.mp H
              obtain ⟨t239, A210, H⟩ := H
              replace H : (some t239) = some r := H
              have A21 := Aside0.mk A210
              clear A210
              obtain rfl := Option.some.inj H
              go_enter Tryd.func7, Tryd.ntmps7
              go_wp2_with (first | ((with_reducible refine gate_dst (N := 4) rfl ?_); (try (refine gate_guard (by rfl) ?_; dsimp only)); refine Kd.R_lit (Kd.int .u64) _ 23 ?hg (N := 4) ?hd (xs := ([1, 0, 0] : List Int)) (inner := [.int .u64 1, .int .u64 0, .int .u64 0]) (ok := fun _ => True) (okp := fun _ => True) ?hr ?hp (fun _ hk => hk) trivial (Below.refl _ _) (Nat.le_refl _) (by simp) ?_; (case hd => rfl); (case hg => rfl); (case hr => first | (go_simp; done) | (go_simp; rfl)); (case hp => exact (Reps.one (show Kd.M (Kd.int .u64) _ _ _ 1 [.int .u64 1] from rfl) (Reps.one (show Kd.M (Kd.int .u64) _ _ _ 0 [.int .u64 0] from rfl) (Reps.one (show Kd.M (Kd.int .u64) _ _ _ 0 [.int .u64 0] from rfl) (Reps.none _ _))))); intro v225 w22 ho23 hb hg_ hnew_; clear hg_ hnew_; (first | rw [← Ny224.out] at ho23 | (simp only [Int.reduceToNat] at ho23; rw [← Ny224.out] at ho23)); have n0_ := Aside0.mk (Kd.R_lower ho23 (below_size (by repeat (first | (with_reducible first | exact HB.out | apply below_alloc | apply pw_below_drewN | apply below_drew1) | exact HB.out)))); have n1_ := Aside0.mk (below_step (by repeat (first | (with_reducible first | exact HB.out | apply below_alloc | apply pw_below_drewN | apply below_drew1) | exact HB.out)) hb); clear HB; have HO226 := n0_; have HB := n1_; clear n0_ n1_; clear hb ho23; obtain ⟨Ao24, co24, eo24⟩ := Kd.R_slice HO226.out; subst eo24) | ((with_reducible refine gate_callee (f := 19) rfl ?_); refine goesL_ (some 5) rfl rfl Tryd.func19 (by kernel_rfl) rfl #[.slice Ao24 y224.length co24, .int .i64 0] rfl (by (try simp only [List.map_toArray, List.map_cons, List.map_nil]); first | done | rfl | (simp only [List.length_drop, List.length_take]; rfl)) ?_; (with_reducible refine (chirp_Chirp.calls k _ _ y224 0 t227 t228 _ ?side1 ?side2 ?sideG A1.out).mono ?_); (case sideG => first | exact hG | exact ⟨hG.out⟩ | exact ⟨hG.out.below (by repeat (first | (with_reducible first | exact HB.out | apply below_alloc | apply pw_below_drewN | apply below_drew1) | exact HB.out))⟩); (case side1 => repeat (first | exact (Kd.R_reads' HO226.out).2.2 | (with_reducible refine Kd.C_alloc ?_ _) | (with_reducible refine Kd.C_drewN ?_ _) | (with_reducible refine Kd.C_drew ?_))); (case side2 => exact (Kd.R_reads' HO226.out).2.1); rintro e w25 ⟨v229, rfl, ho0, hb⟩; refine ⟨_, rfl, ?_⟩; have n0_ := Aside0.mk (Kd.R_elder' (by (with_reducible repeat (first | apply Kd.R_alloc | apply Kd.R_drewN | apply Kd.R_drew)); exact HO226.out) (Kd.R_base ho0) hb); have n1_ := Aside0.mk (Kd.R_lower (Kd.R_new' ho0 (Kd.R_lt (by (with_reducible repeat (first | apply Kd.R_alloc | apply Kd.R_drewN | apply Kd.R_drew)); exact HO226.out))) (below_size (by repeat (first | (with_reducible first | exact HB.out | apply below_alloc | apply pw_below_drewN | apply below_drew1) | exact HB.out)))); have n2_ := Aside0.mk (below_step (by repeat (first | (with_reducible first | exact HB.out | apply below_alloc | apply pw_below_drewN | apply below_drew1) | exact HB.out)) hb); clear HO226; clear HB; have HO226 := n0_; have HO230 := n1_; have HB := n2_; clear n0_ n1_ n2_; (try clear hb); (try clear hb2); (try clear hk); (try clear hi); (try clear ho0)) | ((with_reducible refine gate_callee (f := 16) rfl ?_); refine goesL_ (some 8) rfl rfl Tryd.func16 (by kernel_rfl) rfl #[.int .i64 3] rfl (by (try simp only [List.map_toArray, List.map_cons, List.map_nil]); first | done | rfl | (simp only [List.length_drop, List.length_take]; rfl)) ?_; (with_reducible refine (chirp_Goes.calls 3 true _ A2.out).mono ?_); rintro e w' ⟨rfl, ⟨nd, rfl⟩⟩; refine ⟨_, rfl, ?_⟩) | (go_at_call 16; (with_reducible refine (chirp_Goes.calls 15 true _ A4.out).mono ?_); rintro e w' ⟨rfl, ⟨nd, rfl⟩⟩) | (go_at_call 16; (with_reducible refine (chirp_Goes.calls 257 true _ A6.out).mono ?_); rintro e w' ⟨rfl, ⟨nd, rfl⟩⟩) | (go_at_call 16; (with_reducible refine (chirp_Goes.calls 7 false _ A8.out).mono ?_); rintro e w' ⟨rfl, ⟨nd, rfl⟩⟩) | (go_at_call 16; (with_reducible refine (chirp_Goes.calls 9 false _ A14.out).mono ?_); rintro e w' ⟨rfl, ⟨nd, rfl⟩⟩) | ((with_reducible refine gate_dst (N := 29) rfl ?_); (try (refine gate_guard (by rfl) ?_; dsimp only)); refine Kd.R_lit (Kd.int .u64) _ 23 ?hg (N := 29) ?hd (xs := ([1, 1, 1] : List Int)) (inner := [.int .u64 1, .int .u64 1, .int .u64 1]) (ok := fun _ => True) (okp := fun _ => True) ?hr ?hp (fun _ hk => hk) trivial (Below.refl _ _) (Nat.le_refl _) (by simp) ?_; (case hd => rfl); (case hg => rfl); (case hr => first | (go_simp; done) | (go_simp; rfl)); (case hp => exact (Reps.one (show Kd.M (Kd.int .u64) _ _ _ 1 [.int .u64 1] from rfl) (Reps.one (show Kd.M (Kd.int .u64) _ _ _ 1 [.int .u64 1] from rfl) (Reps.one (show Kd.M (Kd.int .u64) _ _ _ 1 [.int .u64 1] from rfl) (Reps.none _ _))))); intro v237 w26 ho27 hb hg_ hnew_; clear hg_ hnew_; (first | rw [← Ny236.out] at ho27 | (simp only [Int.reduceToNat] at ho27; rw [← Ny236.out] at ho27)); have n0_ := Aside0.mk (Kd.R_elder' (by (with_reducible repeat (first | apply Kd.R_alloc | apply Kd.R_drewN | apply Kd.R_drew)); exact HO226.out) (Kd.R_base ho27) hb); have n1_ := Aside0.mk (Kd.R_elder' (by (with_reducible repeat (first | apply Kd.R_alloc | apply Kd.R_drewN | apply Kd.R_drew)); exact HO230.out) (Kd.R_base ho27) hb); have n2_ := Aside0.mk (Kd.R_lower (Kd.R_new' (Kd.R_new' ho27 (Kd.R_lt (by (with_reducible repeat (first | apply Kd.R_alloc | apply Kd.R_drewN | apply Kd.R_drew)); exact HO226.out))) (Kd.R_lt (by (with_reducible repeat (first | apply Kd.R_alloc | apply Kd.R_drewN | apply Kd.R_drew)); exact HO230.out))) (below_size (by repeat (first | (with_reducible first | exact HB.out | apply below_alloc | apply pw_below_drewN | apply below_drew1) | exact HB.out)))); have n3_ := Aside0.mk (below_step (by repeat (first | (with_reducible first | exact HB.out | apply below_alloc | apply pw_below_drewN | apply below_drew1) | exact HB.out)) hb); clear HO226; clear HO230; clear HB; have HO226 := n0_; have HO230 := n1_; have HO238 := n2_; have HB := n3_; clear n0_ n1_ n2_ n3_; clear hb ho27; obtain ⟨Ao28, co28, eo28⟩ := Kd.R_slice HO230.out; subst eo28; obtain ⟨Ao29, co29, eo29⟩ := Kd.R_slice HO238.out; subst eo29) | (go_at_call 10; (with_reducible refine (abacistref04_Same.calls k _ _ t227 _ _ y236 t239 _ ?side1 ?side2 ?side3 ?side4 A21.out).mono ?_); (case side1 => repeat (first | exact (Kd.R_reads' HO230.out).2.2 | (with_reducible refine Kd.C_alloc ?_ _) | (with_reducible refine Kd.C_drewN ?_ _) | (with_reducible refine Kd.C_drew ?_))); (case side2 => exact (Kd.R_reads' HO230.out).2.1); (case side3 => repeat (first | exact (Kd.R_reads' HO238.out).2.2 | (with_reducible refine Kd.C_alloc ?_ _) | (with_reducible refine Kd.C_drewN ?_ _) | (with_reducible refine Kd.C_drew ?_))); (case side4 => exact (Kd.R_reads' HO238.out).2.1); rintro e w' ⟨rfl, ⟨nd, rfl⟩⟩))
              go_ret
              exact ⟨by first | rfl | (simp [errW_none, errW_some] <;> rfl) | (simp [*, errW_none, errW_some] <;> rfl), by repeat (first | (with_reducible first | exact HB.out | apply below_alloc | apply pw_below_drewN | apply below_drew1) | exact HB.out)⟩
            · rw [if_neg c20] at H
              have c20b0 : (t228 == 0) = false := beq_eq_false_iff_ne.mpr c20
              have c20b1 : (t228 != 0) = true := bne_iff_ne.mpr c20
              obtain rfl := Option.some.inj H
              go_enter Tryd.func7, Tryd.ntmps7
              go_wp2_with (first | ((with_reducible refine gate_dst (N := 4) rfl ?_); (try (refine gate_guard (by rfl) ?_; dsimp only)); refine Kd.R_lit (Kd.int .u64) _ 23 ?hg (N := 4) ?hd (xs := ([1, 0, 0] : List Int)) (inner := [.int .u64 1, .int .u64 0, .int .u64 0]) (ok := fun _ => True) (okp := fun _ => True) ?hr ?hp (fun _ hk => hk) trivial (Below.refl _ _) (Nat.le_refl _) (by simp) ?_; (case hd => rfl); (case hg => rfl); (case hr => first | (go_simp; done) | (go_simp; rfl)); (case hp => exact (Reps.one (show Kd.M (Kd.int .u64) _ _ _ 1 [.int .u64 1] from rfl) (Reps.one (show Kd.M (Kd.int .u64) _ _ _ 0 [.int .u64 0] from rfl) (Reps.one (show Kd.M (Kd.int .u64) _ _ _ 0 [.int .u64 0] from rfl) (Reps.none _ _))))); intro v225 w30 ho31 hb hg_ hnew_; clear hg_ hnew_; (first | rw [← Ny224.out] at ho31 | (simp only [Int.reduceToNat] at ho31; rw [← Ny224.out] at ho31)); have n0_ := Aside0.mk (Kd.R_lower ho31 (below_size (by repeat (first | (with_reducible first | exact HB.out | apply below_alloc | apply pw_below_drewN | apply below_drew1) | exact HB.out)))); have n1_ := Aside0.mk (below_step (by repeat (first | (with_reducible first | exact HB.out | apply below_alloc | apply pw_below_drewN | apply below_drew1) | exact HB.out)) hb); clear HB; have HO226 := n0_; have HB := n1_; clear n0_ n1_; clear hb ho31; obtain ⟨Ao32, co32, eo32⟩ := Kd.R_slice HO226.out; subst eo32) | ((with_reducible refine gate_callee (f := 19) rfl ?_); refine goesL_ (some 5) rfl rfl Tryd.func19 (by kernel_rfl) rfl #[.slice Ao32 y224.length co32, .int .i64 0] rfl (by (try simp only [List.map_toArray, List.map_cons, List.map_nil]); first | done | rfl | (simp only [List.length_drop, List.length_take]; rfl)) ?_; (with_reducible refine (chirp_Chirp.calls k _ _ y224 0 t227 t228 _ ?side1 ?side2 ?sideG A1.out).mono ?_); (case sideG => first | exact hG | exact ⟨hG.out⟩ | exact ⟨hG.out.below (by repeat (first | (with_reducible first | exact HB.out | apply below_alloc | apply pw_below_drewN | apply below_drew1) | exact HB.out))⟩); (case side1 => repeat (first | exact (Kd.R_reads' HO226.out).2.2 | (with_reducible refine Kd.C_alloc ?_ _) | (with_reducible refine Kd.C_drewN ?_ _) | (with_reducible refine Kd.C_drew ?_))); (case side2 => exact (Kd.R_reads' HO226.out).2.1); rintro e w33 ⟨v229, rfl, ho0, hb⟩; refine ⟨_, rfl, ?_⟩; have n0_ := Aside0.mk (Kd.R_elder' (by (with_reducible repeat (first | apply Kd.R_alloc | apply Kd.R_drewN | apply Kd.R_drew)); exact HO226.out) (Kd.R_base ho0) hb); have n1_ := Aside0.mk (Kd.R_lower (Kd.R_new' ho0 (Kd.R_lt (by (with_reducible repeat (first | apply Kd.R_alloc | apply Kd.R_drewN | apply Kd.R_drew)); exact HO226.out))) (below_size (by repeat (first | (with_reducible first | exact HB.out | apply below_alloc | apply pw_below_drewN | apply below_drew1) | exact HB.out)))); have n2_ := Aside0.mk (below_step (by repeat (first | (with_reducible first | exact HB.out | apply below_alloc | apply pw_below_drewN | apply below_drew1) | exact HB.out)) hb); clear HO226; clear HB; have HO226 := n0_; have HO230 := n1_; have HB := n2_; clear n0_ n1_ n2_; (try clear hb); (try clear hb2); (try clear hk); (try clear hi); (try clear ho0)) | ((with_reducible refine gate_callee (f := 16) rfl ?_); refine goesL_ (some 8) rfl rfl Tryd.func16 (by kernel_rfl) rfl #[.int .i64 3] rfl (by (try simp only [List.map_toArray, List.map_cons, List.map_nil]); first | done | rfl | (simp only [List.length_drop, List.length_take]; rfl)) ?_; (with_reducible refine (chirp_Goes.calls 3 true _ A2.out).mono ?_); rintro e w' ⟨rfl, ⟨nd, rfl⟩⟩; refine ⟨_, rfl, ?_⟩) | (go_at_call 16; (with_reducible refine (chirp_Goes.calls 15 true _ A4.out).mono ?_); rintro e w' ⟨rfl, ⟨nd, rfl⟩⟩) | (go_at_call 16; (with_reducible refine (chirp_Goes.calls 257 true _ A6.out).mono ?_); rintro e w' ⟨rfl, ⟨nd, rfl⟩⟩) | (go_at_call 16; (with_reducible refine (chirp_Goes.calls 7 false _ A8.out).mono ?_); rintro e w' ⟨rfl, ⟨nd, rfl⟩⟩) | (go_at_call 16; (with_reducible refine (chirp_Goes.calls 9 false _ A14.out).mono ?_); rintro e w' ⟨rfl, ⟨nd, rfl⟩⟩))
              go_ret
              exact ⟨by first | rfl | (simp [errW_none, errW_some] <;> rfl) | (simp [*, errW_none, errW_some] <;> rfl), by repeat (first | (with_reducible first | exact HB.out | apply below_alloc | apply pw_below_drewN | apply below_drew1) | exact HB.out)⟩
      · replace c7 := Bool.eq_false_iff.mpr c7
        subst c7
        have H1 : (some false) = some r := by rw [if_neg (show ¬ (false = true) by decide)] at H; exact H
        clear H
        have H := H1
        clear H1
        obtain rfl := Option.some.inj H
        go_enter Tryd.func7, Tryd.ntmps7
        go_wp2_with (first | ((with_reducible refine gate_dst (N := 4) rfl ?_); (try (refine gate_guard (by rfl) ?_; dsimp only)); refine Kd.R_lit (Kd.int .u64) _ 23 ?hg (N := 4) ?hd (xs := ([1, 0, 0] : List Int)) (inner := [.int .u64 1, .int .u64 0, .int .u64 0]) (ok := fun _ => True) (okp := fun _ => True) ?hr ?hp (fun _ hk => hk) trivial (Below.refl _ _) (Nat.le_refl _) (by simp) ?_; (case hd => rfl); (case hg => rfl); (case hr => first | (go_simp; done) | (go_simp; rfl)); (case hp => exact (Reps.one (show Kd.M (Kd.int .u64) _ _ _ 1 [.int .u64 1] from rfl) (Reps.one (show Kd.M (Kd.int .u64) _ _ _ 0 [.int .u64 0] from rfl) (Reps.one (show Kd.M (Kd.int .u64) _ _ _ 0 [.int .u64 0] from rfl) (Reps.none _ _))))); intro v225 w34 ho35 hb hg_ hnew_; clear hg_ hnew_; (first | rw [← Ny224.out] at ho35 | (simp only [Int.reduceToNat] at ho35; rw [← Ny224.out] at ho35)); have n0_ := Aside0.mk (Kd.R_lower ho35 (below_size (by repeat (first | (with_reducible first | exact HB.out | apply below_alloc | apply pw_below_drewN | apply below_drew1) | exact HB.out)))); have n1_ := Aside0.mk (below_step (by repeat (first | (with_reducible first | exact HB.out | apply below_alloc | apply pw_below_drewN | apply below_drew1) | exact HB.out)) hb); clear HB; have HO226 := n0_; have HB := n1_; clear n0_ n1_; clear hb ho35; obtain ⟨Ao36, co36, eo36⟩ := Kd.R_slice HO226.out; subst eo36) | ((with_reducible refine gate_callee (f := 19) rfl ?_); refine goesL_ (some 5) rfl rfl Tryd.func19 (by kernel_rfl) rfl #[.slice Ao36 y224.length co36, .int .i64 0] rfl (by (try simp only [List.map_toArray, List.map_cons, List.map_nil]); first | done | rfl | (simp only [List.length_drop, List.length_take]; rfl)) ?_; (with_reducible refine (chirp_Chirp.calls k _ _ y224 0 t227 t228 _ ?side1 ?side2 ?sideG A1.out).mono ?_); (case sideG => first | exact hG | exact ⟨hG.out⟩ | exact ⟨hG.out.below (by repeat (first | (with_reducible first | exact HB.out | apply below_alloc | apply pw_below_drewN | apply below_drew1) | exact HB.out))⟩); (case side1 => repeat (first | exact (Kd.R_reads' HO226.out).2.2 | (with_reducible refine Kd.C_alloc ?_ _) | (with_reducible refine Kd.C_drewN ?_ _) | (with_reducible refine Kd.C_drew ?_))); (case side2 => exact (Kd.R_reads' HO226.out).2.1); rintro e w37 ⟨v229, rfl, ho0, hb⟩; refine ⟨_, rfl, ?_⟩; have n0_ := Aside0.mk (Kd.R_elder' (by (with_reducible repeat (first | apply Kd.R_alloc | apply Kd.R_drewN | apply Kd.R_drew)); exact HO226.out) (Kd.R_base ho0) hb); have n1_ := Aside0.mk (Kd.R_lower (Kd.R_new' ho0 (Kd.R_lt (by (with_reducible repeat (first | apply Kd.R_alloc | apply Kd.R_drewN | apply Kd.R_drew)); exact HO226.out))) (below_size (by repeat (first | (with_reducible first | exact HB.out | apply below_alloc | apply pw_below_drewN | apply below_drew1) | exact HB.out)))); have n2_ := Aside0.mk (below_step (by repeat (first | (with_reducible first | exact HB.out | apply below_alloc | apply pw_below_drewN | apply below_drew1) | exact HB.out)) hb); clear HO226; clear HB; have HO226 := n0_; have HO230 := n1_; have HB := n2_; clear n0_ n1_ n2_; (try clear hb); (try clear hb2); (try clear hk); (try clear hi); (try clear ho0)) | ((with_reducible refine gate_callee (f := 16) rfl ?_); refine goesL_ (some 8) rfl rfl Tryd.func16 (by kernel_rfl) rfl #[.int .i64 3] rfl (by (try simp only [List.map_toArray, List.map_cons, List.map_nil]); first | done | rfl | (simp only [List.length_drop, List.length_take]; rfl)) ?_; (with_reducible refine (chirp_Goes.calls 3 true _ A2.out).mono ?_); rintro e w' ⟨rfl, ⟨nd, rfl⟩⟩; refine ⟨_, rfl, ?_⟩) | (go_at_call 16; (with_reducible refine (chirp_Goes.calls 15 true _ A4.out).mono ?_); rintro e w' ⟨rfl, ⟨nd, rfl⟩⟩) | (go_at_call 16; (with_reducible refine (chirp_Goes.calls 257 false _ A6.out).mono ?_); rintro e w' ⟨rfl, ⟨nd, rfl⟩⟩))
        go_ret
        exact ⟨by first | rfl | (simp [errW_none, errW_some] <;> rfl) | (simp [*, errW_none, errW_some] <;> rfl), by repeat (first | (with_reducible first | exact HB.out | apply below_alloc | apply pw_below_drewN | apply below_drew1) | exact HB.out)⟩
    · replace c5 := Bool.eq_false_iff.mpr c5
      subst c5
      have H1 : (some false) = some r := by rw [if_neg (show ¬ (false = true) by decide)] at H; exact H
      clear H
      have H := H1
      clear H1
      obtain rfl := Option.some.inj H
      go_enter Tryd.func7, Tryd.ntmps7
      go_wp2_with (first | ((with_reducible refine gate_dst (N := 4) rfl ?_); (try (refine gate_guard (by rfl) ?_; dsimp only)); refine Kd.R_lit (Kd.int .u64) _ 23 ?hg (N := 4) ?hd (xs := ([1, 0, 0] : List Int)) (inner := [.int .u64 1, .int .u64 0, .int .u64 0]) (ok := fun _ => True) (okp := fun _ => True) ?hr ?hp (fun _ hk => hk) trivial (Below.refl _ _) (Nat.le_refl _) (by simp) ?_; (case hd => rfl); (case hg => rfl); (case hr => first | (go_simp; done) | (go_simp; rfl)); (case hp => exact (Reps.one (show Kd.M (Kd.int .u64) _ _ _ 1 [.int .u64 1] from rfl) (Reps.one (show Kd.M (Kd.int .u64) _ _ _ 0 [.int .u64 0] from rfl) (Reps.one (show Kd.M (Kd.int .u64) _ _ _ 0 [.int .u64 0] from rfl) (Reps.none _ _))))); intro v225 w38 ho39 hb hg_ hnew_; clear hg_ hnew_; (first | rw [← Ny224.out] at ho39 | (simp only [Int.reduceToNat] at ho39; rw [← Ny224.out] at ho39)); have n0_ := Aside0.mk (Kd.R_lower ho39 (below_size (by repeat (first | (with_reducible first | exact HB.out | apply below_alloc | apply pw_below_drewN | apply below_drew1) | exact HB.out)))); have n1_ := Aside0.mk (below_step (by repeat (first | (with_reducible first | exact HB.out | apply below_alloc | apply pw_below_drewN | apply below_drew1) | exact HB.out)) hb); clear HB; have HO226 := n0_; have HB := n1_; clear n0_ n1_; clear hb ho39; obtain ⟨Ao40, co40, eo40⟩ := Kd.R_slice HO226.out; subst eo40) | ((with_reducible refine gate_callee (f := 19) rfl ?_); refine goesL_ (some 5) rfl rfl Tryd.func19 (by kernel_rfl) rfl #[.slice Ao40 y224.length co40, .int .i64 0] rfl (by (try simp only [List.map_toArray, List.map_cons, List.map_nil]); first | done | rfl | (simp only [List.length_drop, List.length_take]; rfl)) ?_; (with_reducible refine (chirp_Chirp.calls k _ _ y224 0 t227 t228 _ ?side1 ?side2 ?sideG A1.out).mono ?_); (case sideG => first | exact hG | exact ⟨hG.out⟩ | exact ⟨hG.out.below (by repeat (first | (with_reducible first | exact HB.out | apply below_alloc | apply pw_below_drewN | apply below_drew1) | exact HB.out))⟩); (case side1 => repeat (first | exact (Kd.R_reads' HO226.out).2.2 | (with_reducible refine Kd.C_alloc ?_ _) | (with_reducible refine Kd.C_drewN ?_ _) | (with_reducible refine Kd.C_drew ?_))); (case side2 => exact (Kd.R_reads' HO226.out).2.1); rintro e w41 ⟨v229, rfl, ho0, hb⟩; refine ⟨_, rfl, ?_⟩; have n0_ := Aside0.mk (Kd.R_elder' (by (with_reducible repeat (first | apply Kd.R_alloc | apply Kd.R_drewN | apply Kd.R_drew)); exact HO226.out) (Kd.R_base ho0) hb); have n1_ := Aside0.mk (Kd.R_lower (Kd.R_new' ho0 (Kd.R_lt (by (with_reducible repeat (first | apply Kd.R_alloc | apply Kd.R_drewN | apply Kd.R_drew)); exact HO226.out))) (below_size (by repeat (first | (with_reducible first | exact HB.out | apply below_alloc | apply pw_below_drewN | apply below_drew1) | exact HB.out)))); have n2_ := Aside0.mk (below_step (by repeat (first | (with_reducible first | exact HB.out | apply below_alloc | apply pw_below_drewN | apply below_drew1) | exact HB.out)) hb); clear HO226; clear HB; have HO226 := n0_; have HO230 := n1_; have HB := n2_; clear n0_ n1_ n2_; (try clear hb); (try clear hb2); (try clear hk); (try clear hi); (try clear ho0)) | ((with_reducible refine gate_callee (f := 16) rfl ?_); refine goesL_ (some 8) rfl rfl Tryd.func16 (by kernel_rfl) rfl #[.int .i64 3] rfl (by (try simp only [List.map_toArray, List.map_cons, List.map_nil]); first | done | rfl | (simp only [List.length_drop, List.length_take]; rfl)) ?_; (with_reducible refine (chirp_Goes.calls 3 true _ A2.out).mono ?_); rintro e w' ⟨rfl, ⟨nd, rfl⟩⟩; refine ⟨_, rfl, ?_⟩) | (go_at_call 16; (with_reducible refine (chirp_Goes.calls 15 false _ A4.out).mono ?_); rintro e w' ⟨rfl, ⟨nd, rfl⟩⟩))
      go_ret
      exact ⟨by first | rfl | (simp [errW_none, errW_some] <;> rfl) | (simp [*, errW_none, errW_some] <;> rfl), by repeat (first | (with_reducible first | exact HB.out | apply below_alloc | apply pw_below_drewN | apply below_drew1) | exact HB.out)⟩
  · replace c3 := Bool.eq_false_iff.mpr c3
    subst c3
    have H1 : (some false) = some r := by rw [if_neg (show ¬ (false = true) by decide)] at H; exact H
    clear H
    have H := H1
    clear H1
    obtain rfl := Option.some.inj H
    go_enter Tryd.func7, Tryd.ntmps7
    go_wp2_with (first | ((with_reducible refine gate_dst (N := 4) rfl ?_); (try (refine gate_guard (by rfl) ?_; dsimp only)); refine Kd.R_lit (Kd.int .u64) _ 23 ?hg (N := 4) ?hd (xs := ([1, 0, 0] : List Int)) (inner := [.int .u64 1, .int .u64 0, .int .u64 0]) (ok := fun _ => True) (okp := fun _ => True) ?hr ?hp (fun _ hk => hk) trivial (Below.refl _ _) (Nat.le_refl _) (by simp) ?_; (case hd => rfl); (case hg => rfl); (case hr => first | (go_simp; done) | (go_simp; rfl)); (case hp => exact (Reps.one (show Kd.M (Kd.int .u64) _ _ _ 1 [.int .u64 1] from rfl) (Reps.one (show Kd.M (Kd.int .u64) _ _ _ 0 [.int .u64 0] from rfl) (Reps.one (show Kd.M (Kd.int .u64) _ _ _ 0 [.int .u64 0] from rfl) (Reps.none _ _))))); intro v225 w42 ho43 hb hg_ hnew_; clear hg_ hnew_; (first | rw [← Ny224.out] at ho43 | (simp only [Int.reduceToNat] at ho43; rw [← Ny224.out] at ho43)); have n0_ := Aside0.mk (Kd.R_lower ho43 (below_size (by repeat (first | (with_reducible first | exact HB.out | apply below_alloc | apply pw_below_drewN | apply below_drew1) | exact HB.out)))); have n1_ := Aside0.mk (below_step (by repeat (first | (with_reducible first | exact HB.out | apply below_alloc | apply pw_below_drewN | apply below_drew1) | exact HB.out)) hb); clear HB; have HO226 := n0_; have HB := n1_; clear n0_ n1_; clear hb ho43; obtain ⟨Ao44, co44, eo44⟩ := Kd.R_slice HO226.out; subst eo44) | ((with_reducible refine gate_callee (f := 19) rfl ?_); refine goesL_ (some 5) rfl rfl Tryd.func19 (by kernel_rfl) rfl #[.slice Ao44 y224.length co44, .int .i64 0] rfl (by (try simp only [List.map_toArray, List.map_cons, List.map_nil]); first | done | rfl | (simp only [List.length_drop, List.length_take]; rfl)) ?_; (with_reducible refine (chirp_Chirp.calls k _ _ y224 0 t227 t228 _ ?side1 ?side2 ?sideG A1.out).mono ?_); (case sideG => first | exact hG | exact ⟨hG.out⟩ | exact ⟨hG.out.below (by repeat (first | (with_reducible first | exact HB.out | apply below_alloc | apply pw_below_drewN | apply below_drew1) | exact HB.out))⟩); (case side1 => repeat (first | exact (Kd.R_reads' HO226.out).2.2 | (with_reducible refine Kd.C_alloc ?_ _) | (with_reducible refine Kd.C_drewN ?_ _) | (with_reducible refine Kd.C_drew ?_))); (case side2 => exact (Kd.R_reads' HO226.out).2.1); rintro e w45 ⟨v229, rfl, ho0, hb⟩; refine ⟨_, rfl, ?_⟩; have n0_ := Aside0.mk (Kd.R_elder' (by (with_reducible repeat (first | apply Kd.R_alloc | apply Kd.R_drewN | apply Kd.R_drew)); exact HO226.out) (Kd.R_base ho0) hb); have n1_ := Aside0.mk (Kd.R_lower (Kd.R_new' ho0 (Kd.R_lt (by (with_reducible repeat (first | apply Kd.R_alloc | apply Kd.R_drewN | apply Kd.R_drew)); exact HO226.out))) (below_size (by repeat (first | (with_reducible first | exact HB.out | apply below_alloc | apply pw_below_drewN | apply below_drew1) | exact HB.out)))); have n2_ := Aside0.mk (below_step (by repeat (first | (with_reducible first | exact HB.out | apply below_alloc | apply pw_below_drewN | apply below_drew1) | exact HB.out)) hb); clear HO226; clear HB; have HO226 := n0_; have HO230 := n1_; have HB := n2_; clear n0_ n1_ n2_; (try clear hb); (try clear hb2); (try clear hk); (try clear hi); (try clear ho0)) | ((with_reducible refine gate_callee (f := 16) rfl ?_); refine goesL_ (some 8) rfl rfl Tryd.func16 (by kernel_rfl) rfl #[.int .i64 3] rfl (by (try simp only [List.map_toArray, List.map_cons, List.map_nil]); first | done | rfl | (simp only [List.length_drop, List.length_take]; rfl)) ?_; (with_reducible refine (chirp_Goes.calls 3 false _ A2.out).mono ?_); rintro e w' ⟨rfl, ⟨nd, rfl⟩⟩; refine ⟨_, rfl, ?_⟩))
    go_ret
    exact ⟨by first | rfl | (simp [errW_none, errW_some] <;> rfl) | (simp [*, errW_none, errW_some] <;> rfl), by repeat (first | (with_reducible first | exact HB.out | apply below_alloc | apply pw_below_drewN | apply below_drew1) | exact HB.out)⟩

/-! ### abacistref29_Goes: function 12 -/
def abacistref29_Goes.f (a0 : Int) : Option (Bool) := if a0 ≥ 1 then (if a0 ≤ 65536 then (if (IntKind.u64.wrap (a0)) = 0 then (none) else (some (((18446744069414584320 : Int) % (IntKind.u64.wrap (a0))) == 0))) else (some false)) else (some false)
set_option maxHeartbeats 8000000 in
set_option maxRecDepth 100000 in
theorem abacistref29_Goes.calls (a0 : Int) (r : Bool) (w : World) (h : abacistref29_Goes.f a0 = some r) :
    Calls Tryd.prog 12 #[.int .i64 a0] w fun e w' => e = .returned (.bool r) ∧ Drawn0 w w' := by
  have H : (if a0 ≥ 1 then (if a0 ≤ 65536 then (if (IntKind.u64.wrap (a0)) = 0 then (none) else (some (((18446744069414584320 : Int) % (IntKind.u64.wrap (a0))) == 0))) else (some false)) else (some false)) = some r := h
  clear h
  by_cases c2 : a0 ≥ 1
  · rw [if_pos c2] at H
    have c2b0 : decide (1 ≤ a0) = true := decide_eq_true c2
    clear c2
    by_cases c3 : a0 ≤ 65536
    · rw [if_pos c3] at H
      have c3b0 : decide (a0 ≤ 65536) = true := decide_eq_true c3
      clear c3
      by_cases c4 : (IntKind.u64.wrap (a0)) = 0
      · rw [if_pos c4] at H
        exact absurd H (by simp)
      · rw [if_neg c4] at H
        have c4b0 : ((IntKind.u64.wrap (a0)) == 0) = false := beq_eq_false_iff_ne.mpr c4
        have c4b1 : ((IntKind.u64.wrap (a0)) != 0) = true := bne_iff_ne.mpr c4
        obtain rfl := Option.some.inj H
        go_enter Tryd.func12, Tryd.ntmps12
        go_wp2
        go_ret
        exact ⟨by first | rfl | (simp; done) | (simp [*]; done), by repeat (first | exact Drawn0.refl _ | apply Drawn0.step)⟩
    · rw [if_neg c3] at H
      have c3b0 : decide (a0 ≤ 65536) = false := decide_eq_false c3
      clear c3
      obtain rfl := Option.some.inj H
      go_enter Tryd.func12, Tryd.ntmps12
      go_wp2
      go_ret
      exact ⟨by first | rfl | (simp; done) | (simp [*]; done), by repeat (first | exact Drawn0.refl _ | apply Drawn0.step)⟩
  · rw [if_neg c2] at H
    have c2b0 : decide (1 ≤ a0) = false := decide_eq_false c2
    clear c2
    obtain rfl := Option.some.inj H
    go_enter Tryd.func12, Tryd.ntmps12
    go_wp2
    go_ret
    exact ⟨by first | rfl | (simp; done) | (simp [*]; done), by repeat (first | exact Drawn0.refl _ | apply Drawn0.step)⟩

/-! ### chirp_Factors: function 13 (by hand) -/
/-- A prime, taken out of a number as often as it goes. -/
def hk_pull (p : Int) : Nat → Int → List Int → Option (Int × List Int)
  | 0, _, _ => none
  | k + 1, n, o => if Int.tmod n p = 0 then (if o.length < 4096 then hk_pull p k (wrap64 (Int.tdiv n p)) (o ++ [p]) else none) else some (n, o)
theorem hk_pull_mono (p : Int) : ∀ k n o, LeO (hk_pull p k n o) (hk_pull p (k + 1) n o)
  | 0, _, _ => fun r h => by simp [hk_pull] at h
  | k + 1, n, o => by
    have ih := hk_pull_mono p k
    rw [hk_pull, hk_pull]
    exact LeO.ite (LeO.ite (ih _ _) (LeO.none _)) (LeO.refl _)
def hk_facs (k : Nat) : List Int → Int → List Int → Option (List Int)
  | [], _, o => some o
  | p :: ps, n, o => (hk_pull p k n o).bind fun q => hk_facs k ps q.1 q.2
theorem hk_facs_mono (k : Nat) : ∀ ps n o, LeO (hk_facs k ps n o) (hk_facs (k + 1) ps n o)
  | [], _, _ => LeO.refl _
  | p :: ps, n, o => LeO.bind (hk_pull_mono p k n o) (fun q => hk_facs_mono k ps q.1 q.2)
def chirp_Factors.f (k : Nat) (a0 : Int) : Option (List Int) := (chirp_Goes.f a0).bind fun g => if g = true then hk_facs k hk_primes a0 [] else some []
theorem chirp_Factors.mono : ∀ a0 k, LeO (chirp_Factors.f k a0) (chirp_Factors.f (k + 1) a0) := fun a0 k => LeO.bind (LeO.refl _) (fun g => LeO.ite (hk_facs_mono k _ _ _) (LeO.refl _))
theorem hk_info_int : (Tryd.prog.info? 3).map (fun i => (i.zero, i.size, i.bytes)) = some (some (.int .i64 0), 1, 8) := by kernel_rfl
theorem hk_prime_cell {w w1 : World} {b : Nat} (hb : Below w.heap.size w w1) (h : ∀ i : Nat, i < 5 → w.cell? ⟨b, i, none⟩ = some (.int .i64 (hk_primes.getD i 0))) (i : Nat) (p : Int) (hi : i < 5) (hp : hk_primes.getD i 0 = p) : w1.cell? ⟨b, i, none⟩ = some (.int .i64 p) := by
  have h1 := h i hi
  rw [hp] at h1
  exact (hb.cell (World.block_lt_of_cell? _ _ h1)).trans h1
theorem hk_prime_index (i : Nat) (p : Int) (h : i < 5) (hp : hk_primes.getD i 0 = p) (W : World) : (Instr.index 50 (.agg #[.int .i64 2, .int .i64 3, .int .i64 5, .int .i64 17, .int .i64 257]) (.int .i64 (i : Int))).run Tryd.prog W = .ok (.int .i64 p) W := by
  subst hp
  match i, h with
  | 0, _ => (simp [Instr.index, run_underlying Tryd.underlying50, hk_primes, asIntOf]; go_simp)
  | 1, _ => (simp [Instr.index, run_underlying Tryd.underlying50, hk_primes, asIntOf]; go_simp)
  | 2, _ => (simp [Instr.index, run_underlying Tryd.underlying50, hk_primes, asIntOf]; go_simp)
  | 3, _ => (simp [Instr.index, run_underlying Tryd.underlying50, hk_primes, asIntOf]; go_simp)
  | 4, _ => (simp [Instr.index, run_underlying Tryd.underlying50, hk_primes, asIntOf]; go_simp)
theorem hk_primes_at (i : Nat) (h : i < 5) : ∃ p : Int, p ∈ hk_primes ∧ hk_primes.drop i = p :: hk_primes.drop (i + 1) ∧ hk_primes.getD i 0 = p := by
  match i, h with
  | 0, _ => exact ⟨2, by decide, rfl, rfl⟩
  | 1, _ => exact ⟨3, by decide, rfl, rfl⟩
  | 2, _ => exact ⟨5, by decide, rfl, rfl⟩
  | 3, _ => exact ⟨17, by decide, rfl, rfl⟩
  | 4, _ => exact ⟨257, by decide, rfl, rfl⟩
set_option maxHeartbeats 8000000 in
set_option maxRecDepth 100000 in
theorem chirp_Factors.calls (k : Nat) (a0 : Int) (r : List Int) (w : World) (hG : Aside0 (TzTab w)) (h : chirp_Factors.f k a0 = some r) :
    Calls Tryd.prog 13 #[.int .i64 a0] w fun e w' => ∃ v0_ : Value, e = .returned (v0_) ∧ Kd.R (Kd.int .i64) 3 w' w.heap.size (fun _ => True) v0_ r ∧ Below w.heap.size w w' := by
  unfold chirp_Factors.f at h
  obtain ⟨g, hg, h⟩ := Option.bind_eq_some_iff.1 h
  have HGO := Aside0.mk hg
  cases g with
  | false =>
    rw [if_neg (by decide)] at h
    obtain rfl := Option.some.inj h
    clear h hg
    go_enter Tryd.func13, Tryd.ntmps13
    go_wp2_with ((go_at_call 16; (with_reducible refine (chirp_Goes.calls a0 false _ HGO.out).mono ?_); rintro e w1 ⟨rfl, hd_⟩; have B1 := Aside0.mk (hk_drawn_below hd_); clear hd_))
    go_ret
    exact ⟨_, rfl, Kd.R_nil _ _ _ _ _, by repeat (first | exact B1.out | apply pw_below_drewN | apply below_drew1)⟩
  | true =>
    rw [if_pos rfl] at h
    have HF := Aside0.mk h
    clear h hg
    go_enter Tryd.func13, Tryd.ntmps13
    go_wp2_with ((go_at_call 16; (with_reducible refine (chirp_Goes.calls a0 true _ HGO.out).mono ?_); rintro e w1 ⟨rfl, hd_⟩; have B1 := Aside0.mk (hk_drawn_below hd_); clear hd_; have q0 := hk_prime_cell B1.out hG.out.2 0 2 (by decide) rfl; have q1 := hk_prime_cell B1.out hG.out.2 1 3 (by decide) rfl; have q2 := hk_prime_cell B1.out hG.out.2 2 5 (by decide) rfl; have q3 := hk_prime_cell B1.out hG.out.2 3 17 (by decide) rfl; have q4 := hk_prime_cell B1.out hG.out.2 4 257 (by decide) rfl))
    clear q0 q1 q2 q3 q4
    go_loopg [0, 2, 9] 5 (fun kq v0 v2 v9 w' => ∃ (i : Nat) (n : Int) (o : List Int), v0 = .int .i64 n ∧ v9 = .int .i64 (i : Int) ∧ Aside0 (kq + i = 5) ∧ Aside0 (hk_facs k (hk_primes.drop i) n o = some r) ∧ Aside0 (Kd.R (Kd.int .i64) 3 w' w.heap.size (fun _ => True) v2 o) ∧ Aside0 (Below w.heap.size w w'))
    case atStart => exact ⟨0, a0, [], rfl, by simp, ⟨by omega⟩, HF, ⟨Kd.R_nil _ _ _ _ _⟩, ⟨by repeat (first | exact B1.out | apply pw_below_drewN | apply below_drew1)⟩⟩
    case round =>
      clear HF B1 HGO
      obtain ⟨i, n, o, rfl, rfl, HI, HF, HO, HB⟩ := hrel
      cases gk with
      | zero =>
        have hi := HI.out
        obtain rfl : i = 5 := by omega
        have hf := HF.out
        obtain rfl : o = r := Option.some.inj hf
        clear hi hf
        go_wp2
        go_ret
        exact ⟨_, rfl, HO.out, by repeat (first | exact HB.out | apply pw_below_drewN | apply below_drew1)⟩
      | succ k1 =>
        have hi := HI.out
        obtain ⟨p, hp, hd, hg⟩ := hk_primes_at i (by omega)
        have hf := HF.out
        rw [hd] at hf
        obtain ⟨q, hq, hf⟩ := Option.bind_eq_some_iff.1 hf
        have HQ := Aside0.mk hq
        have HF2 := Aside0.mk hf
        have c1 : decide ((i : Int) < 5) = true := decide_eq_true (by omega)
        have c2 : ((i : Int) < 5) = True := eq_true (by omega)
        have c3 : (0 ≤ (i : Int)) = True := eq_true (by omega)
        have c4 : (i < 5) = True := eq_true (by omega)
        have hix := hk_prime_index i p (by omega) hg
        have hz : (p = 0) = False := eq_false (fun e => by rw [e] at hp; revert hp; decide)
        clear hi hq hf hp hd
        go_wp2
        clear hix c1 c2 c3 c4
        go_loopg [0, 2] k (fun kq v0 v2 w' => ∃ (n1 : Int) (o1 : List Int), v0 = .int .i64 n1 ∧ Aside0 (hk_pull p kq n1 o1 = some q) ∧ Aside0 (kq ≤ k) ∧ Aside0 (Kd.R (Kd.int .i64) 3 w' w.heap.size (fun _ => True) v2 o1) ∧ Aside0 (Below w.heap.size w w'))
        case atStart => exact ⟨n, o, rfl, HQ, ⟨Nat.le_refl _⟩, ⟨by (with_reducible repeat (first | apply Kd.R_drewN | apply Kd.R_drew)); exact HO.out⟩, ⟨by repeat (first | exact HB.out | apply pw_below_drewN | apply below_drew1)⟩⟩
        case round =>
          clear HQ HO HB HF
          obtain ⟨n1, o1, rfl, HQ, HK, HO, HB⟩ := hrel
          cases gk with
          | zero => exact absurd HQ.out (by simp [hk_pull])
          | succ k2 =>
            have hq := HQ.out
            rw [hk_pull] at hq
            by_cases c : Int.tmod n1 p = 0
            · rw [if_pos c] at hq
              by_cases d : o1.length < 4096
              · rw [if_pos d] at hq
                have HN := Aside0.mk hq
                have LM := Aside0.mk d
                have c1 : (Int.tmod n1 p == 0) = true := beq_iff_eq.2 c
                have c2 : (Int.tmod n1 p = 0) = True := eq_true c
                clear hq c d HQ
                go_wp2_with (first | ((with_reducible refine gate_builtin (b := .append) (xs := #[.tmp 19, .tmp 21]) rfl ?_); at_builtin; refine Kd.R_append (Kd.int .i64) (w0 := w) w.heap.size rfl (.tmp 19) (.tmp 21) 33 3 (.int .i64 0) 8 rfl Tryd.underlying33 hk_info_int rfl (by decide) (by omega) u2 o1 p [.int .i64 p] (fun _ => True) (fun _ => False) rfl rfl ?aP (fun _ hk => hk.elim) ?aF ?aO ?aB ?aS ?aL ?_; (case aP => exact rfl); (case aB => exact (by repeat (first | (with_reducible first | exact HB.out | apply below_alloc | apply pw_below_drewN | apply below_drew1) | exact HB.out))); (case aF => exact (fun _ _ => trivial)); (case aO => exact (by (with_reducible repeat (first | apply Kd.R_alloc | apply Kd.R_drewN | apply Kd.R_drew)); exact HO.out)); (case aS => exact (below_size (by repeat (first | (with_reducible first | exact HB.out | apply below_alloc | apply pw_below_drewN | apply below_drew1) | exact HB.out)))); (case aL => have := LM.out; omega); intro v3 w12 ho hb hg hat; have HB3 := Aside0.mk hb; have HO3 := Aside0.mk ho; clear HB HO ho hb hg hat))
                go_roundg k2
                case measure => omega
                case rel => exact ⟨_, _, rfl, HN, ⟨by have := HK.out; omega⟩, ⟨by (with_reducible repeat (first | apply Kd.R_drewN | apply Kd.R_drew)); exact HO3.out⟩, ⟨by repeat (first | exact HB3.out | apply pw_below_drewN | apply below_drew1)⟩⟩
              · rw [if_neg d] at hq; cases hq
            · rw [if_neg c] at hq
              obtain rfl := Option.some.inj hq
              have c1 : (Int.tmod n1 p == 0) = false := beq_eq_false_iff_ne.2 c
              have c2 : (Int.tmod n1 p = 0) = False := eq_false c
              clear hq c HQ
              go_wp2
              clear c1 c2 hz
              go_roundg k1
              case measure => omega
              case rel => exact ⟨i + 1, _, _, rfl, (by rw [show wrap64 ((i : Int) + 1) = ((i + 1 : Nat) : Int) by have := HI.out; unfold wrap64; omega]), ⟨by have := HI.out; omega⟩, HF2, ⟨by (with_reducible repeat (first | apply Kd.R_drewN | apply Kd.R_drew)); exact HO.out⟩, ⟨by repeat (first | exact HB.out | apply pw_below_drewN | apply below_drew1)⟩⟩

end Go.Proofs.YtnmjomcpkckihaaDoor.PChirpLengths
