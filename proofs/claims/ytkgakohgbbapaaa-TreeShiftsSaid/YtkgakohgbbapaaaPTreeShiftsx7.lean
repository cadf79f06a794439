-- Written for this claim by wip/gen/mk.sh, this session's own driver over the kit's print
import Derived.Test.YtkgakohgbbapaaaPTreeShiftsx0
import Derived.Test.YtkgakohgbbapaaaPTreeShiftsx1
import Derived.Test.YtkgakohgbbapaaaPTreeShiftsx2
namespace Go.Proofs.Ytkgakohgbbapaaa.PTreeShifts
open Go.RowKit Go.Proofs.YtkgakohgbbapaaaW.PrintWords Go.Proofs.YtkgakohgbbapaaaW.PrintLast Go.Proofs.YtkgakohgbbapaaaW.PrintMore
attribute [local go_sem] max2_int min2_int max_two min_two max_three min_three max_four min_four   -- for this text's walks alone
set_option linter.unusedVariables false
set_option linter.unusedSimpArgs false

/-! ### abacistref02_Of: function 22 -/
def abacistref02_Of.f (a0 : Int) : Option (Int) := some (Int.tmod a0 18446744069414584321)
set_option maxHeartbeats 8000000 in
set_option maxRecDepth 100000 in
theorem abacistref02_Of.calls (a0 : Int) (r : Int) (w : World) (h : abacistref02_Of.f a0 = some r) :
    Calls Try.prog 22 #[.int .u64 a0] w fun e w' => e = .returned (.int .u64 r) ∧ Drawn0 w w' := by
  have H : (some (Int.tmod a0 18446744069414584321)) = some r := h
  clear h
  obtain rfl := Option.some.inj H
  go_enter Try.func22, Try.ntmps22
  go_wp2
  go_ret
  exact ⟨by first | rfl | (simp; done) | (simp [*]; done), by repeat (first | exact Drawn0.refl _ | apply Drawn0.step)⟩

/-! ### abacistref02_Sub: function 12 -/
def abacistref02_Sub.f (a0 : Int) (a1 : Int) : Option (Int) := (abacistref02_Of.f a0).bind fun t254 => ((abacistref02_Of.f a1).bind fun t255 => (if t254 ≥ t255 then (some (IntKind.u64.wrap (t254 - t255))) else (some (IntKind.u64.wrap (18446744069414584321 - (IntKind.u64.wrap (t255 - t254)))))))
set_option maxHeartbeats 8000000 in
set_option maxRecDepth 100000 in
theorem abacistref02_Sub.calls (a0 : Int) (a1 : Int) (r : Int) (w : World) (h : abacistref02_Sub.f a0 a1 = some r) :
    Calls Try.prog 12 #[.int .u64 a0, .int .u64 a1] w fun e w' => e = .returned (.int .u64 r) ∧ Drawn0 w w' := by
  have H : ((abacistref02_Of.f a0).bind fun t254 => ((abacistref02_Of.f a1).bind fun t255 => (if t254 ≥ t255 then (some (IntKind.u64.wrap (t254 - t255))) else (some (IntKind.u64.wrap (18446744069414584321 - (IntKind.u64.wrap (t255 - t254)))))))) = some r := h
  clear h
  replace H := Option.bind_eq_some_iff.mp H
  obtain ⟨t254, A30, H⟩ := H
  replace H : ((abacistref02_Of.f a1).bind fun t255 => (if t254 ≥ t255 then (some (IntKind.u64.wrap (t254 - t255))) else (some (IntKind.u64.wrap (18446744069414584321 - (IntKind.u64.wrap (t255 - t254))))))) = some r := H
  have A3 := Aside0.mk A30
  clear A30
  replace H := Option.bind_eq_some_iff.mp H
  obtain ⟨t255, A40, H⟩ := H
  replace H : (if t254 ≥ t255 then (some (IntKind.u64.wrap (t254 - t255))) else (some (IntKind.u64.wrap (18446744069414584321 - (IntKind.u64.wrap (t255 - t254)))))) = some r := H
  have A4 := Aside0.mk A40
  clear A40
  by_cases c5 : t254 ≥ t255
  · rw [if_pos c5] at H
    have c5b0 : decide (t255 ≤ t254) = true := decide_eq_true c5
    clear c5
    obtain rfl := Option.some.inj H
    go_enter Try.func12, Try.ntmps12
    go_wp2_with (first | ((with_reducible refine gate_callee (f := 22) rfl ?_); refine goesL_ (some 6) rfl rfl Try.func22 (by kernel_rfl) rfl #[.int .u64 a0] rfl (by (try simp only [List.map_toArray, List.map_cons, List.map_nil]); first | done | rfl | (simp only [List.length_drop, List.length_take]; rfl)) ?_; (with_reducible refine (abacistref02_Of.calls a0 t254 _ A3.out).mono ?_); rintro e w' ⟨rfl, ⟨nd, rfl⟩⟩; refine ⟨_, rfl, ?_⟩) | ((with_reducible refine gate_callee (f := 22) rfl ?_); refine goesL_ (some 8) rfl rfl Try.func22 (by kernel_rfl) rfl #[.int .u64 a1] rfl (by (try simp only [List.map_toArray, List.map_cons, List.map_nil]); first | done | rfl | (simp only [List.length_drop, List.length_take]; rfl)) ?_; (with_reducible refine (abacistref02_Of.calls a1 t255 _ A4.out).mono ?_); rintro e w' ⟨rfl, ⟨nd, rfl⟩⟩; refine ⟨_, rfl, ?_⟩))
    go_ret
    exact ⟨by first | rfl | (simp; done) | (simp [*]; done), by repeat (first | exact Drawn0.refl _ | apply Drawn0.step)⟩
  · rw [if_neg c5] at H
    have c5b0 : decide (t255 ≤ t254) = false := decide_eq_false c5
    clear c5
    obtain rfl := Option.some.inj H
    go_enter Try.func12, Try.ntmps12
    go_wp2_with (first | ((with_reducible refine gate_callee (f := 22) rfl ?_); refine goesL_ (some 6) rfl rfl Try.func22 (by kernel_rfl) rfl #[.int .u64 a0] rfl (by (try simp only [List.map_toArray, List.map_cons, List.map_nil]); first | done | rfl | (simp only [List.length_drop, List.length_take]; rfl)) ?_; (with_reducible refine (abacistref02_Of.calls a0 t254 _ A3.out).mono ?_); rintro e w' ⟨rfl, ⟨nd, rfl⟩⟩; refine ⟨_, rfl, ?_⟩) | ((with_reducible refine gate_callee (f := 22) rfl ?_); refine goesL_ (some 8) rfl rfl Try.func22 (by kernel_rfl) rfl #[.int .u64 a1] rfl (by (try simp only [List.map_toArray, List.map_cons, List.map_nil]); first | done | rfl | (simp only [List.length_drop, List.length_take]; rfl)) ?_; (with_reducible refine (abacistref02_Of.calls a1 t255 _ A4.out).mono ?_); rintro e w' ⟨rfl, ⟨nd, rfl⟩⟩; refine ⟨_, rfl, ?_⟩))
    go_ret
    exact ⟨by first | rfl | (simp; done) | (simp [*]; done), by repeat (first | exact Drawn0.refl _ | apply Drawn0.step)⟩

/-- make([]T, 0, n): an empty row with room for n. -/
theorem R_make0 {P : Program} {ops : Array Oper} {rest : List Oper} {o : Oper} {a : Act} {Q : Exit → Act → World → Prop} {α : Type} (d : Kd α) {w0 W : World} (base e : Nat) (hgd : o.guard = none) {N : Tmp} (hd : o.dst = some N) (t : TypeId) (x y : Operand) (ho : o.op = .makeSlice t x y) (n : Int) (hx : a.eval x = .int .i64 0) (hy : a.eval y = .int .i64 n)
    (ht : P.underlying t = some (.slice e)) (z : Value) (bytes : Nat) (hinfo : (P.info? e).map (fun i => (i.zero, i.size, i.bytes)) = some (some z, d.sz, bytes)) (hz : z.cells.size = d.sz) (hs0 : 0 < d.sz) (hb0 : 0 < bytes)
    {ok : Nat → Prop} (hfresh : ok W.heap.size) (h0 : 0 ≤ n) (hl : n.toNat * bytes ≤ 281474976710656) (HB : Below base w0 W) (hbase : base ≤ W.heap.size)
    (h : ∀ v1 w1, d.R e w1 base ok v1 ([] : List α) → Below base w0 w1 → W.grownBy w1 none → (∃ b, v1.ownBlock = some b ∧ W.heap.size ≤ b) → wpList P ops Q rest (a.put o.dst v1) w1) : wpList P ops Q (o :: rest) a W := by
  obtain ⟨m, rfl⟩ := Int.eq_ofNat_of_zero_le h0
  simp only [Int.toNat_natCast] at hl
  obtain ⟨i0, hi, hzz⟩ := Option.map_eq_some_iff.1 hinfo
  simp only [Prod.mk.injEq] at hzz
  obtain ⟨hz0, hz1, hz2⟩ := hzz
  have hm : m ≤ 281474976710656 := Nat.le_trans (Nat.le_mul_of_pos_right _ hb0) hl
  have hr := run_make (P := P) W t e i0 z ht hi hz0 .i64 .i64 (0 : Int) (m : Int) (by omega) (by omega)
    (by
      have h3 : ((i0.bytes * m : Nat) : Int) ≤ 281474976710656 := by rw [hz2, Nat.mul_comm]; omega
      rwa [Int.natCast_mul] at h3) (by omega)
  simp only [Int.toNat_natCast, Int.toNat_zero] at hr
  rw [hz1] at hr
  refine Kd.event_run hgd (v := .slice (some ⟨W.heap.size, 0, none⟩) 0 m) (w1 := W.alloc (.cells (madeCells z.cells (m * d.sz)) e)) (by simp [execOp, ho, hx, hy, hr]) (h _ _ ⟨fun k hk => ?_, [], ?_, Reps.none _ _⟩ (HB.alloc hbase _) (World.grownBy_alloc W _ none) ⟨W.heap.size, by simp [Value.ownBlock], Nat.le_refl _⟩)
  · have : W.heap.size = k := by simpa [Value.ownBlock] using hk
    subst this
    exact hfresh
  · have h2 := World.ownsRow_lit (base := base) (e := e) (size := d.sz) W (madeCells z.cells (m * d.sz)) m hbase (by simp [maxLen]; omega) (by simp [size_madeCells])
    have h3 := own_take (m := 0) h2 (Nat.zero_le _)
    simpa using h3
/-! ### tree_Shift: function 16 -/
mutual
def tree_Shift.l0 : Nat → List Int → Int → List Int → Int → Option (List Int × Int)
  | 0, _, _, _, _ => none
  | k + 1, x0, x1, x6, x7 => if x7 ≥ 0 then (if x6.length < 17592186044416 then ((some (x6 ++ [0] : List Int)).bind fun y262 => (tree_Shift.l1 k x0 x1 y262 x7 (wrap64 ((y262.length : Int) - 1)))) else (none)) else ((poly_Trim.f k x6).bind fun t259 => (some (t259, 0)))
def tree_Shift.l1 : Nat → List Int → Int → List Int → Int → Int → Option (List Int × Int)
  | 0, _, _, _, _, _ => none
  | k + 1, x0, x1, x6, x7, x8 => if x8 ≥ 0 then (if 0 ≤ x8 then (if x8 < (x6.length : Int) then ((gold_Mul.f (rd x6 x8) x1).bind fun t270 => ((some (x6.set (x8 : Int).toNat t270 : List Int)).bind fun y271 => (if x8 > 0 then (if 0 ≤ (wrap64 (x8 - 1)) then (if (wrap64 (x8 - 1)) < (x6.length : Int) then ((gold_Add.f (rd y271 x8) (rd y271 (wrap64 (x8 - 1)))).bind fun t274 => (tree_Shift.l1 k x0 x1 (y271.set (x8 : Int).toNat t274) x7 (wrap64 (x8 - 1)))) else (none)) else (none)) else (tree_Shift.l1 k x0 x1 y271 x7 (wrap64 (x8 - 1)))))) else (none)) else (none)) else (if 0 < (x6.length : Int) then (if 0 ≤ x7 then (if x7 < (x0.length : Int) then ((gold_Add.f (rd x6 0) (rd x0 x7)).bind fun t267 => (tree_Shift.l0 k x0 x1 (x6.set (0 : Int).toNat t267) (wrap64 (x7 - 1)))) else (none)) else (none)) else (none))
end
def tree_Shift.f (k : Nat) (l0 : List Int) (a1 : Int) : Option (List Int × Int) := if (l0.length : Int) > 4096 then (some (([] : List Int), 14)) else (if 0 ≤ (l0.length : Int) then (if ((l0.length : Int) : Int).toNat ≤ 35184372088832 then (tree_Shift.l0 k l0 a1 (([] : List Int)) (wrap64 ((l0.length : Int) - 1))) else (none)) else (none))
theorem tree_Shift.mono_l : ∀ k, (∀ y0 y1 y2 y3, LeO (tree_Shift.l0 k y0 y1 y2 y3) (tree_Shift.l0 (k + 1) y0 y1 y2 y3)) ∧ (∀ y0 y1 y2 y3 y4, LeO (tree_Shift.l1 k y0 y1 y2 y3 y4) (tree_Shift.l1 (k + 1) y0 y1 y2 y3 y4))
  | 0 => ⟨fun _ _ _ _ r h => by simp [tree_Shift.l0] at h, fun _ _ _ _ _ r h => by simp [tree_Shift.l1] at h⟩
  | k + 1 => by
    obtain ⟨ih0, ih1⟩ := tree_Shift.mono_l k
    refine ⟨?_, ?_⟩
    · intro y0 y1 y2 y3
      unfold tree_Shift.l0
      repeat' first
      | (with_reducible exact ih0 _ _ _ _)
      | (with_reducible exact ih1 _ _ _ _ _)
      | (with_reducible exact poly_Trim.mono _ _)
      | (with_reducible exact LeO.refl _)
      | (with_reducible exact LeO.none _)
      | (with_reducible refine LeO.ite ?_ ?_)
      | (with_reducible refine LeO.bind ?_ (fun _ => ?_))
      | exact ih0 _ _ _ _
      | exact ih1 _ _ _ _ _
      | exact poly_Trim.mono _ _
      | exact LeO.none _
      | refine LeO.ite ?_ ?_
      | refine LeO.bind ?_ (fun _ => ?_)
    · intro y0 y1 y2 y3 y4
      unfold tree_Shift.l1
      repeat' first
      | (with_reducible exact ih0 _ _ _ _)
      | (with_reducible exact ih1 _ _ _ _ _)
      | (with_reducible exact poly_Trim.mono _ _)
      | (with_reducible exact LeO.refl _)
      | (with_reducible exact LeO.none _)
      | (with_reducible refine LeO.ite ?_ ?_)
      | (with_reducible refine LeO.bind ?_ (fun _ => ?_))
      | exact ih0 _ _ _ _
      | exact ih1 _ _ _ _ _
      | exact poly_Trim.mono _ _
      | exact LeO.none _
      | refine LeO.ite ?_ ?_
      | refine LeO.bind ?_ (fun _ => ?_)
theorem tree_Shift.mono : ∀ a0 a1 k, LeO (tree_Shift.f k a0 a1) (tree_Shift.f (k + 1) a0 a1) := by
  intro a0 a1 k
  obtain ⟨ih0, ih1⟩ := tree_Shift.mono_l k
  unfold tree_Shift.f
  repeat' first
      | (with_reducible exact ih0 _ _ _ _)
      | (with_reducible exact ih1 _ _ _ _ _)
      | (with_reducible exact poly_Trim.mono _ _)
      | (with_reducible exact LeO.refl _)
      | (with_reducible exact LeO.none _)
      | (with_reducible refine LeO.ite ?_ ?_)
      | (with_reducible refine LeO.bind ?_ (fun _ => ?_))
      | exact ih0 _ _ _ _
      | exact ih1 _ _ _ _ _
      | exact poly_Trim.mono _ _
      | exact LeO.none _
      | refine LeO.ite ?_ ?_
      | refine LeO.bind ?_ (fun _ => ?_)
def tree_Shift.T13 : Bool × List (List Nat × List Nat) := (true, [([], []), ([], []), ([], []), ([], []), ([2, 3], [2, 3]), ([4], [4]), ([], []), ([], []), ([7], [7]), ([6, 8], [6, 8]), ([9], [9]), ([5, 10], [5, 10]), ([0, 1, 0, 1, 2, 3, 4, 5, 6, 7, 8, 9, 10, 11], [0, 1]), ([12, 11, 11, 0, 1, 2, 3, 4, 5, 6, 7, 8, 9, 10, 11], [11, 12])])
def tree_Shift.B13 : List Nat := [0, 0, 0, 0, 12, 28, 0, 0, 128, 448, 960, 2044, 4095, 8191]
theorem tree_Shift.tab13 : rtab .any (opsOf Try.f16 13) = tree_Shift.T13 := by kernel_rfl
theorem tree_Shift.bits13 : waitsOk tree_Shift.T13.2 tree_Shift.B13 = true := by kernel_rfl
def tree_Shift.T14 : Bool × List (List Nat × List Nat) := (true, [([], []), ([], []), ([1], [1]), ([2], [2]), ([], []), ([], []), ([4, 5], [4, 5]), ([6], [6]), ([3, 7], [3, 7]), ([0, 0, 1, 2, 3, 4, 5, 6, 7, 8], [0]), ([9, 8, 8, 0, 1, 2, 3, 4, 5, 6, 7, 8], [8, 9])])
def tree_Shift.B14 : List Nat := [0, 0, 2, 6, 0, 0, 48, 112, 254, 511, 1023]
theorem tree_Shift.tab14 : rtab .any (opsOf Try.f16 14) = tree_Shift.T14 := by kernel_rfl
theorem tree_Shift.bits14 : waitsOk tree_Shift.T14.2 tree_Shift.B14 = true := by kernel_rfl
set_option maxHeartbeats 80000000 in
set_option maxRecDepth 100000 in
theorem tree_Shift.calls (k : Nat) (A0 : Option Addr) (c0 : Nat) (l0 : List Int) (a1 : Int) (r1 : List Int) (r2 : Int) (w : World) (hr0 : Kd.C (Kd.int .u64) w A0 l0.length l0) (hc0 : l0.length ≤ c0) (h : tree_Shift.f k l0 a1 = some (r1, r2)) :
    Calls Try.prog 16 #[.slice A0 l0.length c0, .int .u64 a1] w fun e w' => ∃ v0_ : Value, e = .returned (.tuple #[v0_, .int .i64 r2]) ∧ Kd.R (Kd.int .u64) 29 w' w.heap.size (fun _ => True) v0_ r1 ∧ Below w.heap.size w w' := by
  have HR0 := Aside0.mk hr0
  have HC0 := Aside0.mk hc0
  clear hr0 hc0
  have HB := Aside0.mk (Below.refl w.heap.size w)
  have H : (if (l0.length : Int) > 4096 then (some (([] : List Int), 14)) else (if 0 ≤ (l0.length : Int) then (if ((l0.length : Int) : Int).toNat ≤ 35184372088832 then (tree_Shift.l0 k l0 a1 (([] : List Int)) (wrap64 ((l0.length : Int) - 1))) else (none)) else (none))) = some (r1, r2) := h
  clear h
  by_cases c3 : (l0.length : Int) > 4096
  · rw [if_pos c3] at H
    have c3b0 : decide (4096 < (l0.length : Int)) = true := decide_eq_true c3
    have c3b1 : decide (4096 < l0.length) = true := decide_eq_true (by omega)
    clear c3
    simp only [Option.some.injEq, Prod.mk.injEq] at H
    obtain ⟨rfl, rfl⟩ := H
    go_enter Try.func16, Try.ntmps16
    go_wp2
    go_ret2
    exact ⟨_, by first | rfl | (simp [errW_none, errW_some] <;> rfl) | (simp [*, errW_none, errW_some] <;> rfl), by first | exact Kd.R_nil _ _ _ _ _ | exact Kd.N_nil _ _ _ _ _ | exact Kd.V_nil _ _ _ _ _ | exact Kd.Q_nil _ _ _ _ _ | exact Kd.S_nil _ _ _ _ _, by repeat (first | (with_reducible first | exact HB.out | apply below_alloc | apply pw_below_drewN | apply below_drew1) | exact HB.out)⟩
  · rw [if_neg c3] at H
    have c3b0 : decide (4096 < (l0.length : Int)) = false := decide_eq_false c3
    have c3b1 : decide (4096 < l0.length) = false := decide_eq_false (by omega)
    clear c3
    by_cases c4 : 0 ≤ (l0.length : Int)
    · rw [if_pos c4] at H
      have c4b0 := eq_true c4
      have LTc4 := Aside0.mk (show (((l0.take (0 : Int).toNat).length : Int) = max 0 0) by rw [List.length_take]; omega)
      (try (have LDc4 := Aside0.mk (show ∀ lo_ : Nat, (((l0.take (0 : Int).toNat).drop lo_).length : Int) = (((0 : Int).toNat - lo_ : Nat) : Int) from fun lo_ => by rw [List.length_drop, List.length_take]; omega)))
      have c4b1 : decide (0 ≤ (l0.length : Int)) = true := decide_eq_true c4
      clear c4
      by_cases c5 : ((l0.length : Int) : Int).toNat ≤ 35184372088832
      · rw [if_pos c5] at H
        have c5b0 := eq_true c5
        have c5b1 : decide (((l0.length : Int) : Int).toNat ≤ 35184372088832) = true := decide_eq_true c5
        clear c5
        obtain ⟨y256, hy256⟩ : ∃ y_ : List Int, y_ = (([] : List Int)) := ⟨_, rfl⟩
        replace H : (tree_Shift.l0 k l0 a1 y256 (wrap64 ((l0.length : Int) - 1))) = some (r1, r2) := by first | (rw [hy256]; with_reducible exact H) | (have H2_ := (Option.bind_some _ _).symm.trans H; rw [hy256]; with_reducible exact H2_) | (have H2_ := (Option.bind_some _ _).symm.trans H; with_reducible exact H2_) | with_reducible exact H | (rw [hy256]; exact H) | exact H
        have Ny256 := Aside0.mk hy256
        clear hy256
        have H' := Aside0.mk H
        clear H
        go_enter Try.func16, Try.ntmps16
        go_wp2_with (first | ((with_reducible refine gate_dst (N := 14) rfl ?_); refine R_make0 (Kd.int .u64) _ 29 rfl (N := 14) rfl 22 _ _ rfl (l0.length : Int) rfl rfl Try.underlying22 (.int .u64 0) 8 info29 rfl (by decide) (by omega) (ok := fun _ => True) trivial (of_decide_eq_true (by first | (with_reducible assumption) | assumption)) (Nat.le_trans (Nat.mul_le_mul_right _ (of_decide_eq_true (by first | (with_reducible assumption) | assumption) : ((l0.length : Int) : Int).toNat ≤ 35184372088832)) (by omega)) (Below.refl _ _) (Nat.le_refl _) ?_; intro v257 w6 ho7 hb hg_ hnew_; clear hg_ hnew_; (first | rw [← Ny256.out] at ho7 | (simp only [Int.reduceToNat] at ho7; rw [← Ny256.out] at ho7)); have n0_ := Aside0.mk (Kd.R_lower ho7 (below_size (by repeat (first | (with_reducible first | exact HB.out | apply below_alloc | apply pw_below_drewN | apply below_drew1) | exact HB.out)))); have n1_ := Aside0.mk (below_step (by repeat (first | (with_reducible first | exact HB.out | apply below_alloc | apply pw_below_drewN | apply below_drew1) | exact HB.out)) hb); clear HB; have HO258 := n0_; have HB := n1_; clear n0_ n1_; clear hb ho7))
        go_loopg [6, 7] k (fun kq v6 v7 w' => ∃ (x6_1 : List Int) (x7_1 : Int), v7 = .int .i64 x7_1 ∧ Aside0 (tree_Shift.l0 kq l0 a1 x6_1 x7_1 = some (r1, r2)) ∧ Aside0 (kq ≤ k) ∧ Aside0 (Kd.R (Kd.int .u64) 29 w' w.heap.size (fun _ => True) v6 x6_1) ∧ Aside0 (Below w.heap.size w w'))
        case atStart => exact ⟨(y256), (wrap64 ((l0.length : Int) - 1)), (by first | rfl | (simp; done) | (simp [*]; done)), H', ⟨Nat.le_refl _⟩, ⟨by (with_reducible repeat (first | apply Kd.R_alloc | apply Kd.R_drewN | apply Kd.R_drew)); exact HO258.out⟩, ⟨by repeat (first | (with_reducible first | exact HB.out | apply below_alloc | apply pw_below_drewN | apply below_drew1) | exact HB.out)⟩⟩
        case round =>
          clear H'
          try clear c1
          try clear p2
          try clear c3
          try clear c3b0
          try clear c3b1
          try clear c4
          try clear c4b0
          try clear c4b1
          try clear c5
          try clear c5b0
          try clear c5b1
          try clear p6
          obtain ⟨x6_1, x7_1, rfl, HA, HK1, HO_6, HB⟩ := hrel
          cases gk with
          | zero => exact absurd HA.out (by simp [tree_Shift.l0])
          | succ k1 =>
            have H := HA.out
            clear HA
            simp only [tree_Shift.l0] at H
            by_cases c8 : x7_1 ≥ 0
            · rw [if_pos c8] at H
              have c8b0 : decide (0 ≤ x7_1) = true := decide_eq_true c8
              clear c8
              by_cases c9 : x6_1.length < 17592186044416
              · rw [if_pos c9] at H
                have LMc9 := Aside0.mk c9
                clear c9
                obtain ⟨y262, hy262⟩ : ∃ y_ : List Int, y_ = (x6_1 ++ [0]) := ⟨_, rfl⟩
                replace H : (tree_Shift.l1 k1 l0 a1 y262 x7_1 (wrap64 ((y262.length : Int) - 1))) = some (r1, r2) := by first | (rw [hy262]; with_reducible exact H) | (have H2_ := (Option.bind_some _ _).symm.trans H; rw [hy262]; with_reducible exact H2_) | (have H2_ := (Option.bind_some _ _).symm.trans H; with_reducible exact H2_) | with_reducible exact H | (rw [hy262]; exact H) | exact H
                have Ny262 := Aside0.mk hy262
                clear hy262
                have H' := Aside0.mk H
                clear H
                go_wp2_with (first | ((with_reducible refine gate_builtin (b := .append) (xs := #[.tmp 22, .tmp 23]) rfl ?_); at_builtin; refine Kd.R_append (Kd.int .u64) (w0 := w) w.heap.size rfl (.tmp 22) (.tmp 23) 22 29 (.int .u64 0) 8 rfl Try.underlying22 info29 rfl (by decide) (by omega) u6 x6_1 0 [.int .u64 0] (fun _ => True) (fun _ => False) rfl rfl ?aP (fun _ hk => hk.elim) ?aF ?aO ?aB ?aS ?aL ?_; (case aP => exact rfl); (case aB => exact (by repeat (first | (with_reducible first | exact HB.out | apply below_alloc | apply pw_below_drewN | apply below_drew1) | exact HB.out))); (case aF => exact (fun _ _ => trivial)); (case aO => exact (by (with_reducible repeat (first | apply Kd.R_alloc | apply Kd.R_drewN | apply Kd.R_drew)); exact HO_6.out)); (case aS => exact (below_size (by repeat (first | (with_reducible first | exact HB.out | apply below_alloc | apply pw_below_drewN | apply below_drew1) | exact HB.out)))); (case aL => have := LMc9.out; omega); intro v263 w10 ho hb hg hat; rw [← Ny262.out] at ho; have n0_ := Aside0.mk (hb); have n1_ := Aside0.mk (ho); clear HB; clear HO_6; have HB := n0_; have HO264 := n1_; clear n0_ n1_; clear ho hb hg hat; obtain ⟨Ao11, co11, eo11⟩ := Kd.R_slice HO264.out; subst eo11))
                go_loopg [8] k1 (fun kq v8 w' => ∃ (x6_2 : List Int) (x8_2 : Int), v8 = .int .i64 x8_2 ∧ Aside0 (tree_Shift.l1 kq l0 a1 x6_2 x7_1 x8_2 = some (r1, r2)) ∧ Aside0 (kq ≤ k1) ∧ Aside0 (Kd.R (Kd.int .u64) 29 w' w.heap.size (fun _ => True) (.slice Ao11 y262.length co11) x6_2) ∧ Aside0 (Below w.heap.size w w'))
                case atStart => exact ⟨(y262), (wrap64 ((y262.length : Int) - 1)), (by first | rfl | (simp; done) | (simp [*]; done)), H', ⟨Nat.le_refl _⟩, ⟨by (with_reducible repeat (first | apply Kd.R_alloc | apply Kd.R_drewN | apply Kd.R_drew)); exact HO264.out⟩, ⟨by repeat (first | (with_reducible first | exact HB.out | apply below_alloc | apply pw_below_drewN | apply below_drew1) | exact HB.out)⟩⟩
                case round =>
                  clear H'
                  try clear c1
                  try clear p2
                  try clear c3
                  try clear c3b0
                  try clear c3b1
                  try clear c4
                  try clear c4b0
                  try clear c4b1
                  try clear c5
                  try clear c5b0
                  try clear c5b1
                  try clear p6
                  try clear c8
                  try clear c8b0
                  try clear c9
                  try clear p2
                  try clear p6
                  obtain ⟨x6_2, x8_2, rfl, HA, HK2, HO_6, HB⟩ := hrel
                  have hl6_2 := (Kd.R_reads' HO_6.out).1
                  rw [hl6_2] at HO_6
                  (try simp only [hl6_2])
                  cases gk with
                  | zero => exact absurd HA.out (by simp [tree_Shift.l1])
                  | succ k2 =>
                    have H := HA.out
                    clear HA
                    simp only [tree_Shift.l1] at H
                    by_cases c12 : x8_2 ≥ 0
                    · rw [if_pos c12] at H
                      have c12b0 : decide (0 ≤ x8_2) = true := decide_eq_true c12
                      clear c12
                      by_cases c13 : 0 ≤ x8_2
                      · rw [if_pos c13] at H
                        have c13b0 : decide (0 ≤ x8_2) = true := decide_eq_true c13
                        clear c13
                        by_cases c14 : x8_2 < (x6_2.length : Int)
                        · rw [if_pos c14] at H
                          have c14b0 : decide (x8_2 < (x6_2.length : Int)) = true := decide_eq_true c14
                          (try (have c14b0_0 := c14b0; rw [LTc4.out] at c14b0_0))
                          (try (have c14b0_0p := eq_true (of_decide_eq_true c14b0_0)))
                          (try (have c14b0_1 := c14b0; rw [LDc4.out] at c14b0_1))
                          (try (have c14b0_1p := eq_true (of_decide_eq_true c14b0_1)))
                          (try (have c14b0_2 := c14b0; simp only [hl6_2] at c14b0_2))
                          clear c14
                          replace H := Option.bind_eq_some_iff.mp H
                          obtain ⟨t270, A150, H⟩ := H
                          replace H : ((some (x6_2.set (x8_2 : Int).toNat t270 : List Int)).bind fun y271 => (if x8_2 > 0 then (if 0 ≤ (wrap64 (x8_2 - 1)) then (if (wrap64 (x8_2 - 1)) < (x6_2.length : Int) then ((gold_Add.f (rd y271 x8_2) (rd y271 (wrap64 (x8_2 - 1)))).bind fun t274 => (tree_Shift.l1 k2 l0 a1 (y271.set (x8_2 : Int).toNat t274) x7_1 (wrap64 (x8_2 - 1)))) else (none)) else (none)) else (tree_Shift.l1 k2 l0 a1 y271 x7_1 (wrap64 (x8_2 - 1))))) = some (r1, r2) := H
                          have A15 := Aside0.mk A150
                          clear A150
                          obtain ⟨y271, hy271⟩ : ∃ y_ : List Int, y_ = (x6_2.set (x8_2 : Int).toNat t270) := ⟨_, rfl⟩
                          replace H : (if x8_2 > 0 then (if 0 ≤ (wrap64 (x8_2 - 1)) then (if (wrap64 (x8_2 - 1)) < (x6_2.length : Int) then ((gold_Add.f (rd y271 x8_2) (rd y271 (wrap64 (x8_2 - 1)))).bind fun t274 => (tree_Shift.l1 k2 l0 a1 (y271.set (x8_2 : Int).toNat t274) x7_1 (wrap64 (x8_2 - 1)))) else (none)) else (none)) else (tree_Shift.l1 k2 l0 a1 y271 x7_1 (wrap64 (x8_2 - 1)))) = some (r1, r2) := by first | (rw [hy271]; with_reducible exact H) | (have H2_ := (Option.bind_some _ _).symm.trans H; rw [hy271]; with_reducible exact H2_) | (have H2_ := (Option.bind_some _ _).symm.trans H; with_reducible exact H2_) | with_reducible exact H | (rw [hy271]; exact H) | exact H
                          have Ny271 := Aside0.mk hy271
                          clear hy271
                          by_cases c17 : x8_2 > 0
                          · rw [if_pos c17] at H
                            have c17b0 : decide (0 < x8_2) = true := decide_eq_true c17
                            clear c17
                            obtain ⟨ji18, hji18⟩ : ∃ j_ : Int, (wrap64 (x8_2 - 1)) = j_ := ⟨_, rfl⟩
                            (try (have hji18w : (IntKind.i64.wrap (x8_2 - 1)) = ji18 := by simpa only [i64_w] using hji18))
                            replace H : (if 0 ≤ (ji18) then (if (ji18) < (x6_2.length : Int) then ((gold_Add.f (rd y271 x8_2) (rd y271 (ji18))).bind fun t274 => (tree_Shift.l1 k2 l0 a1 (y271.set (x8_2 : Int).toNat t274) x7_1 ji18)) else (none)) else (none)) = some (r1, r2) := by first | (rw [hji18] at H; exact H) | (simp only [hji18] at H ⊢; exact H)
                            (try rw [hji18] at A15)
                            have hji18w : (IntKind.i64.wrap (x8_2 - 1)) = ji18 := (i64_w _).trans hji18
                            by_cases c19 : 0 ≤ (ji18)
                            · rw [if_pos c19] at H
                              have c19b0 : decide (0 ≤ (ji18)) = true := decide_eq_true c19
                              clear c19
                              by_cases c20 : (ji18) < (x6_2.length : Int)
                              · rw [if_pos c20] at H
                                have c20b0 : decide ((ji18) < (x6_2.length : Int)) = true := decide_eq_true c20
                                (try (have c20b0_0 := c20b0; rw [LTc4.out] at c20b0_0))
                                (try (have c20b0_0p := eq_true (of_decide_eq_true c20b0_0)))
                                (try (have c20b0_1 := c20b0; rw [LDc4.out] at c20b0_1))
                                (try (have c20b0_1p := eq_true (of_decide_eq_true c20b0_1)))
                                (try (have c20b0_2 := c20b0; simp only [hl6_2] at c20b0_2))
                                clear c20
                                replace H := Option.bind_eq_some_iff.mp H
                                obtain ⟨t274, A210, H⟩ := H
                                replace H : (tree_Shift.l1 k2 l0 a1 (y271.set (x8_2 : Int).toNat t274) x7_1 ji18) = some (r1, r2) := H
                                have A21 := Aside0.mk A210
                                clear A210
                                obtain ⟨y275, hy275⟩ : ∃ y_ : List Int, y_ = (y271.set (x8_2 : Int).toNat t274) := ⟨_, rfl⟩
                                replace H : (tree_Shift.l1 k2 l0 a1 y275 x7_1 ji18) = some (r1, r2) := by first | (rw [hy275]; with_reducible exact H) | (have H2_ := (Option.bind_some _ _).symm.trans H; rw [hy275]; with_reducible exact H2_) | (have H2_ := (Option.bind_some _ _).symm.trans H; with_reducible exact H2_) | with_reducible exact H | (rw [hy275]; exact H) | exact H
                                have Ny275 := Aside0.mk hy275
                                clear hy275
                                have H' := Aside0.mk H
                                clear H
                                have p269 : 0 ≤ (x8_2 : Int) := of_decide_eq_true (by first | (with_reducible assumption) | assumption)
                                have q269 : x8_2 < (x6_2.length : Int) := of_decide_eq_true (by first | (with_reducible assumption) | assumption)
                                (try (first | (have hq_ := Kd.R_reads' HO_6.out; clear hq_) | (obtain ⟨AoQ269, coQ269, eoQ269⟩ := Kd.R_slice HO_6.out; subst eoQ269)))
                                obtain ⟨ad269, e269, hx269_0⟩ := Kd.at_int (Kd.R_reads' HO_6.out).2.2 x8_2 p269 q269
                                cases e269
                                replace p269 := eq_true p269
                                replace q269 := eq_true q269
                                try go_wp2_with (first | ((with_reducible refine gate_callee (f := 28) rfl ?_); refine goesL_ (some 39) rfl rfl Try.func28 (by kernel_rfl) rfl #[.int .u64 (rd x6_2 x8_2), .int .u64 a1] rfl (by (try simp only [List.map_toArray, List.map_cons, List.map_nil]); first | done | rfl | (simp only [List.length_drop, List.length_take]; rfl)) ?_; (with_reducible refine (gold_Mul.calls (rd x6_2 x8_2) a1 t270 _ A15.out).mono ?_); rintro e w23 ⟨rfl, hb⟩; refine ⟨_, rfl, ?_⟩; have n0_ := Aside0.mk (Kd.R_below (by (with_reducible repeat (first | apply Kd.R_alloc | apply Kd.R_drewN | apply Kd.R_drew)); exact HO_6.out) hb); have n1_ := Aside0.mk (below_step (by repeat (first | (with_reducible first | exact HB.out | apply below_alloc | apply pw_below_drewN | apply below_drew1) | exact HB.out)) hb); clear HO_6; clear HB; have HO_6 := n0_; have HB := n1_; clear n0_ n1_; (try clear hb); (try clear hb2); (try clear hk); (try clear hi); have p16 : 0 ≤ (x8_2 : Int) := of_decide_eq_true (by first | (with_reducible assumption) | assumption); have q16 : (x8_2 : Int) < ((x6_2.length : Int) : Int) := of_decide_eq_true (by first | (with_reducible assumption) | assumption); obtain ⟨go16, co16, eo16, gb16, gl16, cl16, HG16⟩ := Kd.R_form HO_6.out (by omega); (first | cases eo16 | (injection eo16 with ea_ en_ ec_; (first | subst ea_ | (injection ea_ with ea_; subst ea_)); subst ec_; clear en_)); have GB16 := Aside0.mk gb16; have GG16 := Aside0.mk HG16; clear gb16 gl16 HG16; (first | simp only [add_plain] at hx269_0 | skip); obtain ⟨hx16_0, hf16_0⟩ := Kd.R_celln 0 HO_6.out (x8_2 : Int) p16 q16; replace p16 := eq_true p16; replace q16 := eq_true q16; obtain ⟨hy24_, hz24_⟩ := Kd.R_celln 0 HO_6.out (x8_2 : Int) (of_decide_eq_true (by first | (with_reducible assumption) | assumption)) (of_decide_eq_true (by first | (with_reducible assumption) | assumption)); have HP24 := Kd.R_putg HO_6.out (x8_2 : Int) t270) | (go_at_call 28; (with_reducible refine (gold_Mul.calls (rd x6_2 x8_2) a1 t270 _ A15.out).mono ?_); rintro e w23 ⟨rfl, hb⟩; have n0_ := Aside0.mk (Kd.R_below (by (with_reducible repeat (first | apply Kd.R_alloc | apply Kd.R_drewN | apply Kd.R_drew)); exact HO_6.out) hb); have n1_ := Aside0.mk (below_step (by repeat (first | (with_reducible first | exact HB.out | apply below_alloc | apply pw_below_drewN | apply below_drew1) | exact HB.out)) hb); clear HO_6; clear HB; have HO_6 := n0_; have HB := n1_; clear n0_ n1_; (try clear hb); (try clear hb2); (try clear hk); (try clear hi); have p16 : 0 ≤ (x8_2 : Int) := of_decide_eq_true (by first | (with_reducible assumption) | assumption); have q16 : (x8_2 : Int) < ((x6_2.length : Int) : Int) := of_decide_eq_true (by first | (with_reducible assumption) | assumption); obtain ⟨go16, co16, eo16, gb16, gl16, cl16, HG16⟩ := Kd.R_form HO_6.out (by omega); (first | cases eo16 | (injection eo16 with ea_ en_ ec_; (first | subst ea_ | (injection ea_ with ea_; subst ea_)); subst ec_; clear en_)); have GB16 := Aside0.mk gb16; have GG16 := Aside0.mk HG16; clear gb16 gl16 HG16; (first | simp only [add_plain] at hx269_0 | skip); obtain ⟨hx16_0, hf16_0⟩ := Kd.R_celln 0 HO_6.out (x8_2 : Int) p16 q16; replace p16 := eq_true p16; replace q16 := eq_true q16; obtain ⟨hy24_, hz24_⟩ := Kd.R_celln 0 HO_6.out (x8_2 : Int) (of_decide_eq_true (by first | (with_reducible assumption) | assumption)) (of_decide_eq_true (by first | (with_reducible assumption) | assumption)); have HP24 := Kd.R_putg HO_6.out (x8_2 : Int) t270) | ((with_reducible refine gate_store (t := 29) (p := 40) rfl ?_); refine store_event (t := 29) (p := 40) (v := ?vo_w25) (w1 := (w23.setCell ⟨go16, (x8_2 : Int).toNat, none⟩ (.int .u64 t270))) ?hg ?ho ?hn ?hr ?_; (case ho => rfl); (case hg => rfl); (case hn => rfl); (case hr => first | (go_simp; done) | (go_simp; rfl)); intro w25 hw; have hg : w23.grownBy w25 (some go16) := (by rw [hw]; exact HP24.2); have hp_ : Kd.R (Kd.int .u64) 29 w25 w.heap.size (fun _ => True) (.slice (some ⟨go16, 0, none⟩) x6_2.length co11) y271 := (by rw [hw, Ny271.out]; exact HP24.1); clear HP24; have n0_ := Aside0.mk (hp_); have n1_ := Aside0.mk ((by rw [hw]; exact below_set (HB.out) GB16.out : Below w.heap.size w w25)); clear HO_6; clear HB; have HO_6 := n0_; have HB := n1_; clear n0_ n1_; clear hg hw hp_))
                                have n0_ := Aside0.mk (Kd.R_drew HO_6.out)
                                have n1_ := Aside0.mk (below_drew1 HB.out)
                                clear HO_6
                                clear HB
                                have HO_6 := n0_
                                have HB := n1_
                                clear n0_ n1_
                                have p272 : 0 ≤ (x8_2 : Int) := of_decide_eq_true (by first | (with_reducible assumption) | assumption)
                                have q272 : x8_2 < (y271.length : Int) := (by have h_ : (x8_2 : Int) < ((x6_2.length : Int) : Int) := of_decide_eq_true (by first | (with_reducible assumption) | assumption); first | (have e_ := (Kd.R_reads' HO_6.out).1; omega) | simpa only [Ny271.out, List.length_set] using h_)
                                have ql272 : ((x8_2 : Int) < ((x6_2.length : Int) : Int)) = True := eq_true (of_decide_eq_true (by first | (with_reducible assumption) | assumption))
                                obtain ⟨ad272, e272, hx272_0⟩ := Kd.at_int (Kd.R_reads' HO_6.out).2.2 x8_2 p272 q272
                                obtain rfl : (⟨go16, 0, none⟩ : Addr) = ad272 := (by injection e272)
                                (first | simp only [add_plain] at hx272_0 | simp only [add_at] at hx272_0 | simp only [Addr.add, Nat.zero_add] at hx272_0 | skip)
                                replace p272 := eq_true p272
                                replace q272 := eq_true q272
                                have p273 : 0 ≤ ((ji18) : Int) := of_decide_eq_true (by first | (with_reducible assumption) | assumption)
                                have q273 : (ji18) < (y271.length : Int) := (by have h_ : ((ji18) : Int) < ((x6_2.length : Int) : Int) := of_decide_eq_true (by first | (with_reducible assumption) | assumption); first | (have e_ := (Kd.R_reads' HO_6.out).1; omega) | simpa only [Ny271.out, List.length_set] using h_)
                                have ql273 : (((ji18) : Int) < ((x6_2.length : Int) : Int)) = True := eq_true (of_decide_eq_true (by first | (with_reducible assumption) | assumption))
                                obtain ⟨ad273, e273, hx273_0⟩ := Kd.at_int (Kd.R_reads' HO_6.out).2.2 (ji18) p273 q273
                                obtain rfl : (⟨go16, 0, none⟩ : Addr) = ad273 := (by injection e273)
                                (first | simp only [add_plain] at hx273_0 | simp only [add_at] at hx273_0 | simp only [Addr.add, Nat.zero_add] at hx273_0 | skip)
                                replace p273 := eq_true p273
                                replace q273 := eq_true q273
                                refine start_ (n := 14) (S := fun w' => w'.cell? ⟨go16, (x8_2).toNat, none⟩ = some (.int .u64 (rd y271 x8_2)) ∧ w'.cell? ⟨go16, ((ji18)).toNat, none⟩ = some (.int .u64 (rd y271 (ji18)))) (ds := [13]) #[false, false, false, false, false, false, false, false, false, false, false, false, false, false] (by kernel_rfl) rfl rfl ⟨hx272_0, hx273_0⟩ (fun hHeld => ?_); refine with_tabW tree_Shift.tab13 tree_Shift.bits13 (fun HT_ HW_ => ?_)
                                generalize w25.drew = w26 at HO_6 HB hx272_0 hx273_0 hHeld ⊢
                                refine pure_ (i := 0) (N := some 43) (v := ?_) (a' := ?_) #[true, false, false, false, false, false, false, false, false, false, false, false, false, false] rfl rfl (any_of HT_.out (by kernel_rfl)) (fun _ _ _ h => h) (Or.inl ⟨by rfl, ?_⟩) ?_ ?_
                                rotate_left
                                · intro w'
                                  go_simp
                                  with_reducible rfl
                                rotate_left
                                · simp only [Act.put, List.setIfInBounds_toArray, List.set_cons_zero, List.set_cons_succ, i64_w, i32_w]
                                  rfl
                                refine pure_ (i := 1) (N := some 44) (v := ?_) (a' := ?_) #[true, true, false, false, false, false, false, false, false, false, false, false, false, false] rfl rfl (any_of HT_.out (by kernel_rfl)) (fun _ _ _ h => h) (Or.inl ⟨by rfl, ?_⟩) ?_ ?_
                                rotate_left
                                · intro w'
                                  go_simp
                                  with_reducible rfl
                                rotate_left
                                · simp only [Act.put, List.setIfInBounds_toArray, List.set_cons_zero, List.set_cons_succ, i64_w, i32_w]
                                  rfl
                                refine pure_ (i := 2) (N := some 45) (v := ?_) (a' := ?_) #[true, true, true, false, false, false, false, false, false, false, false, false, false, false] rfl rfl (any_of HT_.out (by kernel_rfl)) (fun _ _ _ h => h) (Or.inl ⟨by rfl, ?_⟩) ?_ ?_
                                rotate_left
                                · intro w'
                                  go_simp
                                  with_reducible rfl
                                rotate_left
                                · simp only [Act.put, List.setIfInBounds_toArray, List.set_cons_zero, List.set_cons_succ, i64_w, i32_w]
                                  rfl
                                refine pure_ (i := 3) (N := some 46) (v := ?_) (a' := ?_) #[true, true, true, true, false, false, false, false, false, false, false, false, false, false] rfl rfl (any_of HT_.out (by kernel_rfl)) (fun _ _ _ h => h) (Or.inl ⟨by rfl, ?_⟩) ?_ ?_
                                rotate_left
                                · intro w'
                                  go_simp
                                  with_reducible rfl
                                rotate_left
                                · simp only [Act.put, List.setIfInBounds_toArray, List.set_cons_zero, List.set_cons_succ, i64_w, i32_w]
                                  rfl
                                refine pure_ (i := 4) (N := some 47) (v := ?_) (a' := ?_) #[true, true, true, true, true, false, false, false, false, false, false, false, false, false] rfl rfl (any_of HT_.out (by kernel_rfl)) (fun _ _ _ h => h) (Or.inl ⟨by rfl, ?_⟩) ?_ ?_
                                rotate_left
                                · intro w'
                                  go_simp
                                  with_reducible rfl
                                rotate_left
                                · simp only [Act.put, List.setIfInBounds_toArray, List.set_cons_zero, List.set_cons_succ, i64_w, i32_w]
                                  rfl
                                refine pure_ (i := 6) (N := some 49) (v := ?_) (a' := ?_) #[true, true, true, true, true, false, true, false, false, false, false, false, false, false] rfl rfl (any_of HT_.out (by kernel_rfl)) (fun _ _ _ h => h) (Or.inl ⟨by rfl, ?_⟩) ?_ ?_
                                rotate_left
                                · intro w'
                                  go_simp
                                  with_reducible rfl
                                rotate_left
                                · simp only [Act.put, List.setIfInBounds_toArray, List.set_cons_zero, List.set_cons_succ, i64_w, i32_w]
                                  rfl
                                refine pure_ (i := 7) (N := some 50) (v := ?_) (a' := ?_) #[true, true, true, true, true, false, true, true, false, false, false, false, false, false] rfl rfl (any_of HT_.out (by kernel_rfl)) (fun _ _ _ h => h) (Or.inl ⟨by rfl, ?_⟩) ?_ ?_
                                rotate_left
                                · intro w'
                                  go_simp
                                  with_reducible rfl
                                rotate_left
                                · simp only [Act.put, List.setIfInBounds_toArray, List.set_cons_zero, List.set_cons_succ, i64_w, i32_w]
                                  rfl
                                refine pure_ (i := 8) (N := some 51) (v := ?_) (a' := ?_) #[true, true, true, true, true, false, true, true, true, false, false, false, false, false] rfl rfl (any_of HT_.out (by kernel_rfl)) (fun _ _ _ h => h) (Or.inl ⟨by rfl, ?_⟩) ?_ ?_
                                rotate_left
                                · intro w'
                                  go_simp
                                  with_reducible rfl
                                rotate_left
                                · simp only [Act.put, List.setIfInBounds_toArray, List.set_cons_zero, List.set_cons_succ, i64_w, i32_w]
                                  rfl
                                refine pure_ (i := 9) (N := some 52) (v := ?_) (a' := ?_) #[true, true, true, true, true, false, true, true, true, true, false, false, false, false] rfl rfl (any_of HT_.out (by kernel_rfl)) (fun _ _ _ h => h) (Or.inl ⟨by rfl, ?_⟩) ?_ ?_
                                rotate_left
                                · intro w'
                                  go_simp
                                  with_reducible rfl
                                rotate_left
                                · simp only [Act.put, List.setIfInBounds_toArray, List.set_cons_zero, List.set_cons_succ, i64_w, i32_w]
                                  rfl
                                refine take_ (i := 5) (N := some 48) (v := ?_) (a' := ?_) #[true, true, true, true, true, true, true, true, true, true, false, false, false, false] rfl rfl (take_ofW HT_.out HW_.out (by kernel_rfl)) (fun _ _ _ h => h) (Or.inl ⟨by rfl, ?_⟩) hHeld ?_ ?_
                                rotate_left
                                · rintro w' ⟨s0, s1⟩
                                  go_simp
                                  with_reducible rfl
                                rotate_left
                                · simp only [Act.put, List.setIfInBounds_toArray, List.set_cons_zero, List.set_cons_succ, i64_w, i32_w]
                                  rfl
                                refine take_ (i := 10) (N := some 53) (v := ?_) (a' := ?_) #[true, true, true, true, true, true, true, true, true, true, true, false, false, false] rfl rfl (take_ofW HT_.out HW_.out (by kernel_rfl)) (fun _ _ _ h => h) (Or.inl ⟨by rfl, ?_⟩) hHeld ?_ ?_
                                rotate_left
                                · rintro w' ⟨s0, s1⟩
                                  go_simp
                                  with_reducible rfl
                                rotate_left
                                · simp only [Act.put, List.setIfInBounds_toArray, List.set_cons_zero, List.set_cons_succ, i64_w, i32_w]
                                  rfl
                                refine one_ (i := 11) (N := some 54) #[true, true, true, true, true, true, true, true, true, true, true, true, false, false] rfl rfl (one_of HT_.out (by kernel_rfl)) (by decide) (fun K hK => ?_)
                                refine goes_ Try.func29 (by kernel_rfl) rfl #[.int .u64 (rd y271 x8_2), .int .u64 (rd y271 (ji18))] (by rfl) rfl rfl (by (try simp only [List.map_toArray, List.map_cons, List.map_nil]); first | done | (simp only [hji18]; rfl) | rfl | (simp only [List.length_drop, List.length_take]; rfl)) ?_
                                with_reducible refine (gold_Add.calls (rd y271 x8_2) (rd y271 (ji18)) t274 _ A21.out).mono ?_
                                rintro e w27 ⟨rfl, hb⟩
                                have HS0_ := (hb.cell (World.block_lt_of_cell? _ _ (hHeld.1))).trans (hHeld.1)
                                have HS1_ := (hb.cell (World.block_lt_of_cell? _ _ (hHeld.2))).trans (hHeld.2)
                                refine ⟨_, rfl, ?_⟩
                                have n0_ := Aside0.mk (Kd.R_below (by (with_reducible repeat (first | apply Kd.R_alloc | apply Kd.R_drewN | apply Kd.R_drew)); exact HO_6.out) hb)
                                have n1_ := Aside0.mk (below_step (by repeat (first | (with_reducible first | exact HB.out | apply below_alloc | apply pw_below_drewN | apply below_drew1) | exact HB.out)) hb)
                                clear HO_6
                                clear HB
                                have HO_6 := n0_
                                have HB := n1_
                                clear n0_ n1_
                                (try clear hb)
                                (try clear hb2)
                                (try clear hk)
                                (try clear hi)
                                have p22 : 0 ≤ (x8_2 : Int) := of_decide_eq_true (by first | (with_reducible assumption) | assumption)
                                have q22 : (x8_2 : Int) < ((x6_2.length : Int) : Int) := of_decide_eq_true (by first | (with_reducible assumption) | assumption)
                                obtain ⟨hx22_0, hf22_0⟩ := Kd.R_celln 0 HO_6.out (x8_2 : Int) p22 q22
                                replace p22 := eq_true p22
                                replace q22 := eq_true q22
                                have HP28 := Kd.R_putn HO_6.out (x8_2 : Int) t274
                                rw [← Ny275.out] at HP28
                                have HQ28 := Aside0.mk HP28
                                clear HP28
                                refine hK.out _ _ ⟨HS0_, HS1_⟩ (fun hHeld => ?_)
                                clear hK K
                                refine norm_ (a' := ?_) ?_ ?_
                                rotate_left
                                · show Act.put _ (some 54) _ = _
                                  simp only [Act.put, List.setIfInBounds_toArray, List.set_cons_zero, List.set_cons_succ, i64_w, i32_w]
                                  rfl
                                refine pure_ (i := 12) (N := some 55) (v := ?_) (a' := ?_) #[true, true, true, true, true, true, true, true, true, true, true, true, true, false] rfl rfl (any_of HT_.out (by kernel_rfl)) (fun _ _ _ h => h) (Or.inl ⟨by rfl, ?_⟩) ?_ ?_
                                rotate_left
                                · intro w'
                                  go_simp
                                  with_reducible rfl
                                rotate_left
                                · simp only [Act.put, List.setIfInBounds_toArray, List.set_cons_zero, List.set_cons_succ, i64_w, i32_w]
                                  rfl
                                refine last_ (i := 13) (N := none) #[true, true, true, true, true, true, true, true, true, true, true, true, true, true] rfl rfl (one_of HT_.out (by kernel_rfl)) (by decide) (fun K hK => ?_)
                                refine skip_ (w1 := ?_) (by rfl) rfl ?_ ?_
                                rotate_left
                                · go_simp
                                  rfl
                                refine hK.out _ _ ?_
                                clear hK K
                                refine done_ (done_of HT_.out (by kernel_rfl)) ?_
                                try go_wp2
                                (try simp only [← hl6_2])
                                (first | go_roundg k2 | (simp only [add_plain] at *; go_roundg k2))
                                case measure => have := HK1.out; have := HK2.out; omega
                                case rel => exact ⟨(y275), (ji18), (by first | rfl | (simp; done) | (simp only [← hji18] <;> (first | rfl | simp)) | (simp [*]; done)), H', ⟨by have := HK1.out; have := HK2.out; omega⟩, ⟨by (try simp only [hl6_2]); (with_reducible repeat (first | apply Kd.R_alloc | apply Kd.R_drewN | apply Kd.R_drew)); exact HQ28.out⟩, ⟨by repeat (first | (with_reducible first | exact HB.out | apply below_alloc | apply pw_below_drewN | apply below_drew1 | refine below_set ?_ GB16.out) | exact HB.out)⟩⟩
                              · rw [if_neg c20] at H
                                exact absurd H (by simp)
                            · rw [if_neg c19] at H
                              exact absurd H (by simp)
                          · rw [if_neg c17] at H
                            have c17b0 : decide (0 < x8_2) = false := decide_eq_false c17
                            clear c17
                            have H' := Aside0.mk H
                            clear H
                            have p269 : 0 ≤ (x8_2 : Int) := of_decide_eq_true (by first | (with_reducible assumption) | assumption)
                            have q269 : x8_2 < (x6_2.length : Int) := of_decide_eq_true (by first | (with_reducible assumption) | assumption)
                            (try (first | (have hq_ := Kd.R_reads' HO_6.out; clear hq_) | (obtain ⟨AoQ269, coQ269, eoQ269⟩ := Kd.R_slice HO_6.out; subst eoQ269)))
                            obtain ⟨ad269, e269, hx269_0⟩ := Kd.at_int (Kd.R_reads' HO_6.out).2.2 x8_2 p269 q269
                            cases e269
                            replace p269 := eq_true p269
                            replace q269 := eq_true q269
                            go_wp2_with (first | ((with_reducible refine gate_callee (f := 28) rfl ?_); refine goesL_ (some 39) rfl rfl Try.func28 (by kernel_rfl) rfl #[.int .u64 (rd x6_2 x8_2), .int .u64 a1] rfl (by (try simp only [List.map_toArray, List.map_cons, List.map_nil]); first | done | rfl | (simp only [List.length_drop, List.length_take]; rfl)) ?_; (with_reducible refine (gold_Mul.calls (rd x6_2 x8_2) a1 t270 _ A15.out).mono ?_); rintro e w29 ⟨rfl, hb⟩; refine ⟨_, rfl, ?_⟩; have n0_ := Aside0.mk (Kd.R_below (by (with_reducible repeat (first | apply Kd.R_alloc | apply Kd.R_drewN | apply Kd.R_drew)); exact HO_6.out) hb); have n1_ := Aside0.mk (below_step (by repeat (first | (with_reducible first | exact HB.out | apply below_alloc | apply pw_below_drewN | apply below_drew1) | exact HB.out)) hb); clear HO_6; clear HB; have HO_6 := n0_; have HB := n1_; clear n0_ n1_; (try clear hb); (try clear hb2); (try clear hk); (try clear hi); have p16 : 0 ≤ (x8_2 : Int) := of_decide_eq_true (by first | (with_reducible assumption) | assumption); have q16 : (x8_2 : Int) < ((x6_2.length : Int) : Int) := of_decide_eq_true (by first | (with_reducible assumption) | assumption); obtain ⟨go16, co16, eo16, gb16, gl16, cl16, HG16⟩ := Kd.R_form HO_6.out (by omega); (first | cases eo16 | (injection eo16 with ea_ en_ ec_; (first | subst ea_ | (injection ea_ with ea_; subst ea_)); subst ec_; clear en_)); have GB16 := Aside0.mk gb16; have GG16 := Aside0.mk HG16; clear gb16 gl16 HG16; (first | simp only [add_plain] at hx269_0 | skip); obtain ⟨hx16_0, hf16_0⟩ := Kd.R_celln 0 HO_6.out (x8_2 : Int) p16 q16; replace p16 := eq_true p16; replace q16 := eq_true q16; obtain ⟨hy30_, hz30_⟩ := Kd.R_celln 0 HO_6.out (x8_2 : Int) (of_decide_eq_true (by first | (with_reducible assumption) | assumption)) (of_decide_eq_true (by first | (with_reducible assumption) | assumption)); have HP30 := Kd.R_putg HO_6.out (x8_2 : Int) t270) | (go_at_call 28; (with_reducible refine (gold_Mul.calls (rd x6_2 x8_2) a1 t270 _ A15.out).mono ?_); rintro e w29 ⟨rfl, hb⟩; have n0_ := Aside0.mk (Kd.R_below (by (with_reducible repeat (first | apply Kd.R_alloc | apply Kd.R_drewN | apply Kd.R_drew)); exact HO_6.out) hb); have n1_ := Aside0.mk (below_step (by repeat (first | (with_reducible first | exact HB.out | apply below_alloc | apply pw_below_drewN | apply below_drew1) | exact HB.out)) hb); clear HO_6; clear HB; have HO_6 := n0_; have HB := n1_; clear n0_ n1_; (try clear hb); (try clear hb2); (try clear hk); (try clear hi); have p16 : 0 ≤ (x8_2 : Int) := of_decide_eq_true (by first | (with_reducible assumption) | assumption); have q16 : (x8_2 : Int) < ((x6_2.length : Int) : Int) := of_decide_eq_true (by first | (with_reducible assumption) | assumption); obtain ⟨go16, co16, eo16, gb16, gl16, cl16, HG16⟩ := Kd.R_form HO_6.out (by omega); (first | cases eo16 | (injection eo16 with ea_ en_ ec_; (first | subst ea_ | (injection ea_ with ea_; subst ea_)); subst ec_; clear en_)); have GB16 := Aside0.mk gb16; have GG16 := Aside0.mk HG16; clear gb16 gl16 HG16; (first | simp only [add_plain] at hx269_0 | skip); obtain ⟨hx16_0, hf16_0⟩ := Kd.R_celln 0 HO_6.out (x8_2 : Int) p16 q16; replace p16 := eq_true p16; replace q16 := eq_true q16; obtain ⟨hy30_, hz30_⟩ := Kd.R_celln 0 HO_6.out (x8_2 : Int) (of_decide_eq_true (by first | (with_reducible assumption) | assumption)) (of_decide_eq_true (by first | (with_reducible assumption) | assumption)); have HP30 := Kd.R_putg HO_6.out (x8_2 : Int) t270) | ((with_reducible refine gate_store (t := 29) (p := 40) rfl ?_); refine store_event (t := 29) (p := 40) (v := ?vo_w31) (w1 := (w29.setCell ⟨go16, (x8_2 : Int).toNat, none⟩ (.int .u64 t270))) ?hg ?ho ?hn ?hr ?_; (case ho => rfl); (case hg => rfl); (case hn => rfl); (case hr => first | (go_simp; done) | (go_simp; rfl)); intro w31 hw; have hg : w29.grownBy w31 (some go16) := (by rw [hw]; exact HP30.2); have hp_ : Kd.R (Kd.int .u64) 29 w31 w.heap.size (fun _ => True) (.slice (some ⟨go16, 0, none⟩) x6_2.length co11) y271 := (by rw [hw, Ny271.out]; exact HP30.1); clear HP30; have n0_ := Aside0.mk (hp_); have n1_ := Aside0.mk ((by rw [hw]; exact below_set (HB.out) GB16.out : Below w.heap.size w w31)); clear HO_6; clear HB; have HO_6 := n0_; have HB := n1_; clear n0_ n1_; clear hg hw hp_))
                            (try simp only [← hl6_2])
                            (first | go_roundg k2 | (simp only [add_plain] at *; go_roundg k2))
                            case measure => have := HK1.out; have := HK2.out; omega
                            case rel => exact ⟨(y271), (wrap64 (x8_2 - 1)), (by first | rfl | (simp; done) | (simp [*]; done)), H', ⟨by have := HK1.out; have := HK2.out; omega⟩, ⟨by (try simp only [hl6_2]); (with_reducible repeat (first | apply Kd.R_alloc | apply Kd.R_drewN | apply Kd.R_drew)); exact HO_6.out⟩, ⟨by repeat (first | (with_reducible first | exact HB.out | apply below_alloc | apply pw_below_drewN | apply below_drew1) | exact HB.out)⟩⟩
                        · rw [if_neg c14] at H
                          exact absurd H (by simp)
                      · rw [if_neg c13] at H
                        exact absurd H (by simp)
                    · rw [if_neg c12] at H
                      have c12b0 : decide (0 ≤ x8_2) = false := decide_eq_false c12
                      clear c12
                      by_cases c32 : 0 < (x6_2.length : Int)
                      · rw [if_pos c32] at H
                        have c32b0 : decide (0 < (x6_2.length : Int)) = true := decide_eq_true c32
                        (try (have c32b0_0 := c32b0; rw [LTc4.out] at c32b0_0))
                        (try (have c32b0_0p := eq_true (of_decide_eq_true c32b0_0)))
                        (try (have c32b0_1 := c32b0; rw [LDc4.out] at c32b0_1))
                        (try (have c32b0_1p := eq_true (of_decide_eq_true c32b0_1)))
                        (try (have c32b0_2 := c32b0; simp only [hl6_2] at c32b0_2))
                        have c32b1 : decide (0 < x6_2.length) = true := decide_eq_true (by omega)
                        clear c32
                        by_cases c33 : 0 ≤ x7_1
                        · rw [if_pos c33] at H
                          have c33b0 : decide (0 ≤ x7_1) = true := decide_eq_true c33
                          clear c33
                          by_cases c34 : x7_1 < (l0.length : Int)
                          · rw [if_pos c34] at H
                            have c34b0 : decide (x7_1 < (l0.length : Int)) = true := decide_eq_true c34
                            (try (have c34b0_0 := c34b0; rw [LTc4.out] at c34b0_0))
                            (try (have c34b0_0p := eq_true (of_decide_eq_true c34b0_0)))
                            (try (have c34b0_1 := c34b0; rw [LDc4.out] at c34b0_1))
                            (try (have c34b0_1p := eq_true (of_decide_eq_true c34b0_1)))
                            (try (have c34b0_2 := c34b0; simp only [hl6_2] at c34b0_2))
                            clear c34
                            replace H := Option.bind_eq_some_iff.mp H
                            obtain ⟨t267, A350, H⟩ := H
                            replace H : (tree_Shift.l0 k2 l0 a1 (x6_2.set (0 : Int).toNat t267) (wrap64 (x7_1 - 1))) = some (r1, r2) := H
                            have A35 := Aside0.mk A350
                            clear A350
                            obtain ⟨y268, hy268⟩ : ∃ y_ : List Int, y_ = (x6_2.set (0 : Int).toNat t267) := ⟨_, rfl⟩
                            replace H : (tree_Shift.l0 k2 l0 a1 y268 (wrap64 (x7_1 - 1))) = some (r1, r2) := by first | (rw [hy268]; with_reducible exact H) | (have H2_ := (Option.bind_some _ _).symm.trans H; rw [hy268]; with_reducible exact H2_) | (have H2_ := (Option.bind_some _ _).symm.trans H; with_reducible exact H2_) | with_reducible exact H | (rw [hy268]; exact H) | exact H
                            have Ny268 := Aside0.mk hy268
                            clear hy268
                            have H' := Aside0.mk H
                            clear H
                            try go_wp2
                            have n0_ := Aside0.mk (Kd.R_drew HO_6.out)
                            have n1_ := Aside0.mk (below_drew1 HB.out)
                            clear HO_6
                            clear HB
                            have HO_6 := n0_
                            have HB := n1_
                            clear n0_ n1_
                            have p265 : 0 ≤ (0 : Int) := (by omega)
                            have q265 : 0 < (x6_2.length : Int) := of_decide_eq_true (by first | (with_reducible assumption) | assumption)
                            (try (first | (have hq_ := Kd.R_reads' HO_6.out; clear hq_) | (obtain ⟨AoQ265, coQ265, eoQ265⟩ := Kd.R_slice HO_6.out; subst eoQ265)))
                            obtain ⟨ad265, e265, hx265_0⟩ := Kd.at_int (Kd.R_reads' HO_6.out).2.2 0 p265 q265
                            cases e265
                            have qi265 : (0 < x6_2.length) = True := eq_true (by omega)
                            (try rw [show ((0 : Int)).toNat = 0 from rfl] at hx265_0)
                            (try rw [Addr.add_zero'] at hx265_0)
                            replace p265 := eq_true p265
                            replace q265 := eq_true q265
                            have p266 : 0 ≤ (x7_1 : Int) := of_decide_eq_true (by first | (with_reducible assumption) | assumption)
                            have q266 : x7_1 < (l0.length : Int) := of_decide_eq_true (by first | (with_reducible assumption) | assumption)
                            obtain ⟨ad266, e266, hx266_0⟩ := Kd.at_int HR0.out x7_1 p266 q266
                            have hw266_0 := hx266_0
                            cases e266
                            replace hx266_0 := (HB.out.cell (World.block_lt_of_cell? w _ hx266_0)).trans hx266_0
                            replace p266 := eq_true p266
                            replace q266 := eq_true q266
                            refine start_ (n := 11) (S := fun w' => w'.cell? ad265 = some (.int .u64 (rd x6_2 0)) ∧ w'.cell? (ad266.add (x7_1).toNat) = some (.int .u64 (rd l0 x7_1))) (ds := [10]) #[false, false, false, false, false, false, false, false, false, false, false] (by kernel_rfl) rfl rfl ⟨hx265_0, ((HB.out.cell (World.block_lt_of_cell? w _ hw266_0)).trans hw266_0)⟩ (fun hHeld => ?_); refine with_tabW tree_Shift.tab14 tree_Shift.bits14 (fun HT_ HW_ => ?_)
                            generalize wr.drew = w37 at HO_6 HB hx265_0 hx266_0 hHeld ⊢
                            refine pure_ (i := 0) (N := some 56) (v := ?_) (a' := ?_) #[true, false, false, false, false, false, false, false, false, false, false] rfl rfl (any_of HT_.out (by kernel_rfl)) (fun _ _ _ h => h) (Or.inl ⟨by rfl, ?_⟩) ?_ ?_
                            rotate_left
                            · intro w'
                              go_simp
                              with_reducible rfl
                            rotate_left
                            · simp only [Act.put, List.setIfInBounds_toArray, List.set_cons_zero, List.set_cons_succ, i64_w, i32_w]
                              rfl
                            refine pure_ (i := 1) (N := some 57) (v := ?_) (a' := ?_) #[true, true, false, false, false, false, false, false, false, false, false] rfl rfl (any_of HT_.out (by kernel_rfl)) (fun _ _ _ h => h) (Or.inl ⟨by rfl, ?_⟩) ?_ ?_
                            rotate_left
                            · intro w'
                              go_simp
                              with_reducible rfl
                            rotate_left
                            · simp only [Act.put, List.setIfInBounds_toArray, List.set_cons_zero, List.set_cons_succ, i64_w, i32_w]
                              rfl
                            refine pure_ (i := 2) (N := some 58) (v := ?_) (a' := ?_) #[true, true, true, false, false, false, false, false, false, false, false] rfl rfl (any_of HT_.out (by kernel_rfl)) (fun _ _ _ h => h) (Or.inl ⟨by rfl, ?_⟩) ?_ ?_
                            rotate_left
                            · intro w'
                              go_simp
                              with_reducible rfl
                            rotate_left
                            · simp only [Act.put, List.setIfInBounds_toArray, List.set_cons_zero, List.set_cons_succ, i64_w, i32_w]
                              rfl
                            refine pure_ (i := 4) (N := some 60) (v := ?_) (a' := ?_) #[true, true, true, false, true, false, false, false, false, false, false] rfl rfl (any_of HT_.out (by kernel_rfl)) (fun _ _ _ h => h) (Or.inl ⟨by rfl, ?_⟩) ?_ ?_
                            rotate_left
                            · intro w'
                              go_simp
                              with_reducible rfl
                            rotate_left
                            · simp only [Act.put, List.setIfInBounds_toArray, List.set_cons_zero, List.set_cons_succ, i64_w, i32_w]
                              rfl
                            refine pure_ (i := 5) (N := some 61) (v := ?_) (a' := ?_) #[true, true, true, false, true, true, false, false, false, false, false] rfl rfl (any_of HT_.out (by kernel_rfl)) (fun _ _ _ h => h) (Or.inl ⟨by rfl, ?_⟩) ?_ ?_
                            rotate_left
                            · intro w'
                              go_simp
                              with_reducible rfl
                            rotate_left
                            · simp only [Act.put, List.setIfInBounds_toArray, List.set_cons_zero, List.set_cons_succ, i64_w, i32_w]
                              rfl
                            refine pure_ (i := 6) (N := some 62) (v := ?_) (a' := ?_) #[true, true, true, false, true, true, true, false, false, false, false] rfl rfl (any_of HT_.out (by kernel_rfl)) (fun _ _ _ h => h) (Or.inl ⟨by rfl, ?_⟩) ?_ ?_
                            rotate_left
                            · intro w'
                              go_simp
                              with_reducible rfl
                            rotate_left
                            · simp only [Act.put, List.setIfInBounds_toArray, List.set_cons_zero, List.set_cons_succ, i64_w, i32_w]
                              rfl
                            refine take_ (i := 3) (N := some 59) (v := ?_) (a' := ?_) #[true, true, true, true, true, true, true, false, false, false, false] rfl rfl (take_ofW HT_.out HW_.out (by kernel_rfl)) (fun _ _ _ h => h) (Or.inl ⟨by rfl, ?_⟩) hHeld ?_ ?_
                            rotate_left
                            · rintro w' ⟨s0, s1⟩
                              go_simp
                              with_reducible rfl
                            rotate_left
                            · simp only [Act.put, List.setIfInBounds_toArray, List.set_cons_zero, List.set_cons_succ, i64_w, i32_w]
                              rfl
                            refine take_ (i := 7) (N := some 63) (v := ?_) (a' := ?_) #[true, true, true, true, true, true, true, true, false, false, false] rfl rfl (take_ofW HT_.out HW_.out (by kernel_rfl)) (fun _ _ _ h => h) (Or.inl ⟨by rfl, ?_⟩) hHeld ?_ ?_
                            rotate_left
                            · rintro w' ⟨s0, s1⟩
                              go_simp
                              with_reducible rfl
                            rotate_left
                            · simp only [Act.put, List.setIfInBounds_toArray, List.set_cons_zero, List.set_cons_succ, i64_w, i32_w]
                              rfl
                            refine one_ (i := 8) (N := some 64) #[true, true, true, true, true, true, true, true, true, false, false] rfl rfl (one_of HT_.out (by kernel_rfl)) (by decide) (fun K hK => ?_)
                            refine goes_ Try.func29 (by kernel_rfl) rfl #[.int .u64 (rd x6_2 0), .int .u64 (rd l0 x7_1)] (by rfl) rfl rfl (by (try simp only [List.map_toArray, List.map_cons, List.map_nil]); first | done | rfl | (simp only [List.length_drop, List.length_take]; rfl)) ?_
                            with_reducible refine (gold_Add.calls (rd x6_2 0) (rd l0 x7_1) t267 _ A35.out).mono ?_
                            rintro e w38 ⟨rfl, hb⟩
                            have HS0_ := (hb.cell (World.block_lt_of_cell? _ _ (hHeld.1))).trans (hHeld.1)
                            refine ⟨_, rfl, ?_⟩
                            have n0_ := Aside0.mk (Kd.R_below (by (with_reducible repeat (first | apply Kd.R_alloc | apply Kd.R_drewN | apply Kd.R_drew)); exact HO_6.out) hb)
                            have n1_ := Aside0.mk (below_step (by repeat (first | (with_reducible first | exact HB.out | apply below_alloc | apply pw_below_drewN | apply below_drew1) | exact HB.out)) hb)
                            clear HO_6
                            clear HB
                            have HO_6 := n0_
                            have HB := n1_
                            clear n0_ n1_
                            (try clear hb)
                            (try clear hb2)
                            (try clear hk)
                            (try clear hi)
                            have p36 : 0 ≤ (0 : Int) := (by omega)
                            have q36 : (0 : Int) < ((x6_2.length : Int) : Int) := of_decide_eq_true (by first | (with_reducible assumption) | assumption)
                            have qi36 : (0 < x6_2.length) = True := eq_true (by omega)
                            obtain ⟨go36, co36, eo36, gb36, gl36, cl36, HG36⟩ := Kd.R_form HO_6.out (by omega)
                            (first | cases eo36 | (injection eo36 with ea_ en_ ec_; (first | subst ea_ | (injection ea_ with ea_; subst ea_)); subst ec_; clear en_))
                            have GB36 := Aside0.mk gb36
                            have GG36 := Aside0.mk HG36
                            clear gb36 gl36 HG36
                            (first | simp only [add_plain] at hx265_0 | skip)
                            obtain ⟨hx36_0, hf36_0⟩ := Kd.R_celln 0 HO_6.out (0 : Int) p36 q36
                            (try rw [show ((0 : Int)).toNat = 0 from rfl] at hx36_0)
                            (try simp only [Nat.reduceMul, Nat.zero_mul, Nat.zero_add, Nat.reduceAdd] at hx36_0)
                            (try rw [show ((0 : Int)).toNat = 0 from rfl] at hf36_0)
                            (try simp only [Nat.reduceMul, Nat.zero_mul, Nat.zero_add, Nat.reduceAdd] at hf36_0)
                            replace p36 := eq_true p36
                            replace q36 := eq_true q36
                            have HP39 := Kd.R_putn HO_6.out (0 : Int) t267
                            rw [← Ny268.out] at HP39
                            have HQ39 := Aside0.mk HP39
                            clear HP39
                            refine hK.out _ _ ⟨HS0_, ((HB.out.cell (World.block_lt_of_cell? w _ hw266_0)).trans hw266_0)⟩ (fun hHeld => ?_)
                            clear hK K
                            refine norm_ (a' := ?_) ?_ ?_
                            rotate_left
                            · show Act.put _ (some 64) _ = _
                              simp only [Act.put, List.setIfInBounds_toArray, List.set_cons_zero, List.set_cons_succ, i64_w, i32_w]
                              rfl
                            refine pure_ (i := 9) (N := some 65) (v := ?_) (a' := ?_) #[true, true, true, true, true, true, true, true, true, true, false] rfl rfl (any_of HT_.out (by kernel_rfl)) (fun _ _ _ h => h) (Or.inl ⟨by rfl, ?_⟩) ?_ ?_
                            rotate_left
                            · intro w'
                              go_simp
                              with_reducible rfl
                            rotate_left
                            · simp only [Act.put, List.setIfInBounds_toArray, List.set_cons_zero, List.set_cons_succ, i64_w, i32_w]
                              rfl
                            refine last_ (i := 10) (N := none) #[true, true, true, true, true, true, true, true, true, true, true] rfl rfl (one_of HT_.out (by kernel_rfl)) (by decide) (fun K hK => ?_)
                            refine skip_ (w1 := ?_) (by rfl) rfl ?_ ?_
                            rotate_left
                            · go_simp
                              rfl
                            refine hK.out _ _ ?_
                            clear hK K
                            refine done_ (done_of HT_.out (by kernel_rfl)) ?_
                            try go_wp2
                            (try simp only [← hl6_2])
                            (first | go_roundg k2 | (simp only [add_plain] at *; go_roundg k2))
                            case measure => have := HK1.out; have := HK2.out; omega
                            case rel => exact ⟨(y268), (wrap64 (x7_1 - 1)), (by first | rfl | (simp; done) | (simp [*]; done)), H', ⟨by have := HK1.out; have := HK2.out; omega⟩, ⟨by (try simp only [hl6_2]); (with_reducible repeat (first | apply Kd.R_alloc | apply Kd.R_drewN | apply Kd.R_drew)); exact HQ39.out⟩, ⟨by repeat (first | (with_reducible first | exact HB.out | apply below_alloc | apply pw_below_drewN | apply below_drew1 | refine below_set ?_ GB36.out) | exact HB.out)⟩⟩
                          · rw [if_neg c34] at H
                            exact absurd H (by simp)
                        · rw [if_neg c33] at H
                          exact absurd H (by simp)
                      · rw [if_neg c32] at H
                        exact absurd H (by simp)
              · rw [if_neg c9] at H
                exact absurd H (by simp)
            · rw [if_neg c8] at H
              have c8b0 : decide (0 ≤ x7_1) = false := decide_eq_false c8
              clear c8
              replace H := Option.bind_eq_some_iff.mp H
              obtain ⟨t259, A400, H⟩ := H
              replace H : (some (t259, 0)) = some (r1, r2) := H
              have A40 := Aside0.mk A400
              clear A400
              simp only [Option.some.injEq, Prod.mk.injEq] at H
              obtain ⟨rfl, rfl⟩ := H
              obtain ⟨Ao41, co41, eo41⟩ := Kd.R_slice HO_6.out
              subst eo41
              go_wp2_with (first | ((with_reducible refine gate_callee (f := 30) rfl ?_); refine goesL_ (some 67) rfl rfl Try.func30 (by kernel_rfl) rfl #[.slice Ao41 x6_1.length co41] rfl (by (try simp only [List.map_toArray, List.map_cons, List.map_nil]); first | done | rfl | (simp only [List.length_drop, List.length_take]; rfl)) ?_; (with_reducible refine (poly_Trim.calls k1 _ _ x6_1 t259 _ ?side1 ?side2 A40.out).mono ?_); (case side1 => repeat (first | exact (Kd.R_reads' HO_6.out).2.2 | (with_reducible refine Kd.C_alloc ?_ _) | (with_reducible refine Kd.C_drewN ?_ _) | (with_reducible refine Kd.C_drew ?_))); (case side2 => exact (Kd.R_reads' HO_6.out).2.1); rintro e w42 ⟨v260, rfl, ho0, hb⟩; refine ⟨_, rfl, ?_⟩; have n0_ := Aside0.mk (Kd.R_elder' (by (with_reducible repeat (first | apply Kd.R_alloc | apply Kd.R_drewN | apply Kd.R_drew)); exact HO_6.out) (Kd.R_base ho0) hb); have n1_ := Aside0.mk (Kd.R_lower (Kd.R_new' ho0 (Kd.R_lt (by (with_reducible repeat (first | apply Kd.R_alloc | apply Kd.R_drewN | apply Kd.R_drew)); exact HO_6.out))) (below_size (by repeat (first | (with_reducible first | exact HB.out | apply below_alloc | apply pw_below_drewN | apply below_drew1) | exact HB.out)))); have n2_ := Aside0.mk (below_step (by repeat (first | (with_reducible first | exact HB.out | apply below_alloc | apply pw_below_drewN | apply below_drew1) | exact HB.out)) hb); clear HO_6; clear HB; have HO_6 := n0_; have HO261 := n1_; have HB := n2_; clear n0_ n1_ n2_; (try clear hb); (try clear hb2); (try clear hk); (try clear hi); (try clear ho0)) | (go_at_call 30; (with_reducible refine (poly_Trim.calls k1 _ _ x6_1 t259 _ ?side1 ?side2 A40.out).mono ?_); (case side1 => repeat (first | exact (Kd.R_reads' HO_6.out).2.2 | (with_reducible refine Kd.C_alloc ?_ _) | (with_reducible refine Kd.C_drewN ?_ _) | (with_reducible refine Kd.C_drew ?_))); (case side2 => exact (Kd.R_reads' HO_6.out).2.1); rintro e w42 ⟨v260, rfl, ho0, hb⟩; have n0_ := Aside0.mk (Kd.R_elder' (by (with_reducible repeat (first | apply Kd.R_alloc | apply Kd.R_drewN | apply Kd.R_drew)); exact HO_6.out) (Kd.R_base ho0) hb); have n1_ := Aside0.mk (Kd.R_lower (Kd.R_new' ho0 (Kd.R_lt (by (with_reducible repeat (first | apply Kd.R_alloc | apply Kd.R_drewN | apply Kd.R_drew)); exact HO_6.out))) (below_size (by repeat (first | (with_reducible first | exact HB.out | apply below_alloc | apply pw_below_drewN | apply below_drew1) | exact HB.out)))); have n2_ := Aside0.mk (below_step (by repeat (first | (with_reducible first | exact HB.out | apply below_alloc | apply pw_below_drewN | apply below_drew1) | exact HB.out)) hb); clear HO_6; clear HB; have HO_6 := n0_; have HO261 := n1_; have HB := n2_; clear n0_ n1_ n2_; (try clear hb); (try clear hb2); (try clear hk); (try clear hi); (try clear ho0)))
              go_ret2
              exact ⟨_, by first | rfl | (simp [errW_none, errW_some] <;> rfl) | (simp [*, errW_none, errW_some] <;> rfl), by (with_reducible repeat (first | apply Kd.R_alloc | apply Kd.R_drewN | apply Kd.R_drew)); exact Kd.R_mono HO261.out (fun _ hk => trivial), by repeat (first | (with_reducible first | exact HB.out | apply below_alloc | apply pw_below_drewN | apply below_drew1) | exact HB.out)⟩
      · rw [if_neg c5] at H
        exact absurd H (by simp)
    · rw [if_neg c4] at H
      exact absurd H (by simp)

/-! ### abacistref02_Add: function 18 -/
def abacistref02_Add.f (a0 : Int) (a1 : Int) : Option (Int) := (abacistref02_Of.f a0).bind fun t276 => ((abacistref02_Of.f a1).bind fun t277 => (if t276 ≥ (IntKind.u64.wrap (18446744069414584321 - t277)) then (some (IntKind.u64.wrap (t276 - (IntKind.u64.wrap (18446744069414584321 - t277))))) else (some (IntKind.u64.wrap (t276 + t277)))))
set_option maxHeartbeats 8000000 in
set_option maxRecDepth 100000 in
theorem abacistref02_Add.calls (a0 : Int) (a1 : Int) (r : Int) (w : World) (h : abacistref02_Add.f a0 a1 = some r) :
    Calls Try.prog 18 #[.int .u64 a0, .int .u64 a1] w fun e w' => e = .returned (.int .u64 r) ∧ Drawn0 w w' := by
  have H : ((abacistref02_Of.f a0).bind fun t276 => ((abacistref02_Of.f a1).bind fun t277 => (if t276 ≥ (IntKind.u64.wrap (18446744069414584321 - t277)) then (some (IntKind.u64.wrap (t276 - (IntKind.u64.wrap (18446744069414584321 - t277))))) else (some (IntKind.u64.wrap (t276 + t277)))))) = some r := h
  clear h
  replace H := Option.bind_eq_some_iff.mp H
  obtain ⟨t276, A30, H⟩ := H
  replace H : ((abacistref02_Of.f a1).bind fun t277 => (if t276 ≥ (IntKind.u64.wrap (18446744069414584321 - t277)) then (some (IntKind.u64.wrap (t276 - (IntKind.u64.wrap (18446744069414584321 - t277))))) else (some (IntKind.u64.wrap (t276 + t277))))) = some r := H
  have A3 := Aside0.mk A30
  clear A30
  replace H := Option.bind_eq_some_iff.mp H
  obtain ⟨t277, A40, H⟩ := H
  replace H : (if t276 ≥ (IntKind.u64.wrap (18446744069414584321 - t277)) then (some (IntKind.u64.wrap (t276 - (IntKind.u64.wrap (18446744069414584321 - t277))))) else (some (IntKind.u64.wrap (t276 + t277)))) = some r := H
  have A4 := Aside0.mk A40
  clear A40
  by_cases c5 : t276 ≥ (IntKind.u64.wrap (18446744069414584321 - t277))
  · rw [if_pos c5] at H
    have c5b0 : decide ((IntKind.u64.wrap (18446744069414584321 - t277)) ≤ t276) = true := decide_eq_true c5
    clear c5
    obtain rfl := Option.some.inj H
    go_enter Try.func18, Try.ntmps18
    go_wp2_with (first | ((with_reducible refine gate_callee (f := 22) rfl ?_); refine goesL_ (some 6) rfl rfl Try.func22 (by kernel_rfl) rfl #[.int .u64 a0] rfl (by (try simp only [List.map_toArray, List.map_cons, List.map_nil]); first | done | rfl | (simp only [List.length_drop, List.length_take]; rfl)) ?_; (with_reducible refine (abacistref02_Of.calls a0 t276 _ A3.out).mono ?_); rintro e w' ⟨rfl, ⟨nd, rfl⟩⟩; refine ⟨_, rfl, ?_⟩) | ((with_reducible refine gate_callee (f := 22) rfl ?_); refine goesL_ (some 8) rfl rfl Try.func22 (by kernel_rfl) rfl #[.int .u64 a1] rfl (by (try simp only [List.map_toArray, List.map_cons, List.map_nil]); first | done | rfl | (simp only [List.length_drop, List.length_take]; rfl)) ?_; (with_reducible refine (abacistref02_Of.calls a1 t277 _ A4.out).mono ?_); rintro e w' ⟨rfl, ⟨nd, rfl⟩⟩; refine ⟨_, rfl, ?_⟩))
    go_ret
    exact ⟨by first | rfl | (simp; done) | (simp [*]; done), by repeat (first | exact Drawn0.refl _ | apply Drawn0.step)⟩
  · rw [if_neg c5] at H
    have c5b0 : decide ((IntKind.u64.wrap (18446744069414584321 - t277)) ≤ t276) = false := decide_eq_false c5
    clear c5
    obtain rfl := Option.some.inj H
    go_enter Try.func18, Try.ntmps18
    go_wp2_with (first | ((with_reducible refine gate_callee (f := 22) rfl ?_); refine goesL_ (some 6) rfl rfl Try.func22 (by kernel_rfl) rfl #[.int .u64 a0] rfl (by (try simp only [List.map_toArray, List.map_cons, List.map_nil]); first | done | rfl | (simp only [List.length_drop, List.length_take]; rfl)) ?_; (with_reducible refine (abacistref02_Of.calls a0 t276 _ A3.out).mono ?_); rintro e w' ⟨rfl, ⟨nd, rfl⟩⟩; refine ⟨_, rfl, ?_⟩) | ((with_reducible refine gate_callee (f := 22) rfl ?_); refine goesL_ (some 8) rfl rfl Try.func22 (by kernel_rfl) rfl #[.int .u64 a1] rfl (by (try simp only [List.map_toArray, List.map_cons, List.map_nil]); first | done | rfl | (simp only [List.length_drop, List.length_take]; rfl)) ?_; (with_reducible refine (abacistref02_Of.calls a1 t277 _ A4.out).mono ?_); rintro e w' ⟨rfl, ⟨nd, rfl⟩⟩; refine ⟨_, rfl, ?_⟩))
    go_ret
    exact ⟨by first | rfl | (simp; done) | (simp [*]; done), by repeat (first | exact Drawn0.refl _ | apply Drawn0.step)⟩

/-! ### abacistref02_Mul: function 26 -/
def abacistref02_Mul.l0 : Nat → Int → Int → Int → Option (Int)
  | 0, _, _, _ => none
  | k + 1, x0, x1, x5 => if x1 > 0 then (if (Int.tmod x1 2) = 1 then ((abacistref02_Add.f x5 x0).bind fun t279 => ((abacistref02_Add.f x0 x0).bind fun t280 => (abacistref02_Mul.l0 k t280 (IntKind.u64.wrap (Int.tdiv x1 2)) t279))) else ((abacistref02_Add.f x0 x0).bind fun t281 => (abacistref02_Mul.l0 k t281 (IntKind.u64.wrap (Int.tdiv x1 2)) x5))) else (some x5)
def abacistref02_Mul.f (k : Nat) (a0 : Int) (a1 : Int) : Option (Int) := (abacistref02_Of.f a0).bind fun t278 => (abacistref02_Mul.l0 k t278 a1 0)
theorem abacistref02_Mul.mono_l : ∀ k, (∀ y0 y1 y2, LeO (abacistref02_Mul.l0 k y0 y1 y2) (abacistref02_Mul.l0 (k + 1) y0 y1 y2))
  | 0 => fun _ _ _ r h => by simp [abacistref02_Mul.l0] at h
  | k + 1 => by
    have ih0 := abacistref02_Mul.mono_l k
    · intro y0 y1 y2
      unfold abacistref02_Mul.l0
      repeat' first
      | (with_reducible exact ih0 _ _ _)
      | (with_reducible exact LeO.refl _)
      | (with_reducible exact LeO.none _)
      | (with_reducible refine LeO.ite ?_ ?_)
      | (with_reducible refine LeO.bind ?_ (fun _ => ?_))
      | exact ih0 _ _ _
      | exact LeO.none _
      | refine LeO.ite ?_ ?_
      | refine LeO.bind ?_ (fun _ => ?_)
theorem abacistref02_Mul.mono : ∀ a0 a1 k, LeO (abacistref02_Mul.f k a0 a1) (abacistref02_Mul.f (k + 1) a0 a1) := by
  intro a0 a1 k
  have ih0 := abacistref02_Mul.mono_l k
  unfold abacistref02_Mul.f
  repeat' first
      | (with_reducible exact ih0 _ _ _)
      | (with_reducible exact LeO.refl _)
      | (with_reducible exact LeO.none _)
      | (with_reducible refine LeO.ite ?_ ?_)
      | (with_reducible refine LeO.bind ?_ (fun _ => ?_))
      | exact ih0 _ _ _
      | exact LeO.none _
      | refine LeO.ite ?_ ?_
      | refine LeO.bind ?_ (fun _ => ?_)
set_option maxHeartbeats 8000000 in
set_option maxRecDepth 100000 in
theorem abacistref02_Mul.calls (k : Nat) (a0 : Int) (a1 : Int) (r : Int) (w : World) (h : abacistref02_Mul.f k a0 a1 = some r) :
    Calls Try.prog 26 #[.int .u64 a0, .int .u64 a1] w fun e w' => e = .returned (.int .u64 r) ∧ Drawn0 w w' := by
  have H : ((abacistref02_Of.f a0).bind fun t278 => (abacistref02_Mul.l0 k t278 a1 0)) = some r := h
  clear h
  replace H := Option.bind_eq_some_iff.mp H
  obtain ⟨t278, A30, H⟩ := H
  replace H : (abacistref02_Mul.l0 k t278 a1 0) = some r := H
  have A3 := Aside0.mk A30
  clear A30
  have H' := Aside0.mk H
  clear H
  go_enter Try.func26, Try.ntmps26
  go_wp2_with (first | ((with_reducible refine gate_callee (f := 22) rfl ?_); refine goesL_ (some 7) rfl rfl Try.func22 (by kernel_rfl) rfl #[.int .u64 a0] rfl (by (try simp only [List.map_toArray, List.map_cons, List.map_nil]); first | done | rfl | (simp only [List.length_drop, List.length_take]; rfl)) ?_; (with_reducible refine (abacistref02_Of.calls a0 t278 _ A3.out).mono ?_); rintro e w' ⟨rfl, ⟨nd, rfl⟩⟩; refine ⟨_, rfl, ?_⟩))
  go_loopg [0, 1, 5] k (fun kq v0 v1 v5 w' => ∃ (x0_1 : Int) (x1_1 : Int) (x5_1 : Int), v0 = .int .u64 x0_1 ∧ v1 = .int .u64 x1_1 ∧ v5 = .int .u64 x5_1 ∧ Aside0 (abacistref02_Mul.l0 kq x0_1 x1_1 x5_1 = some r) ∧ Aside0 (kq ≤ k) ∧ Drawn0 w w')
  case atStart => exact ⟨(t278), (a1), (0), (by first | rfl | (simp; done) | (simp [*]; done)), (by first | rfl | (simp; done) | (simp [*]; done)), (by first | rfl | (simp; done) | (simp [*]; done)), H', ⟨Nat.le_refl _⟩, by repeat (first | exact Drawn0.refl _ | apply Drawn0.step)⟩
  case round =>
    clear H'
    try clear c2
    try clear p2
    obtain ⟨x0_1, x1_1, x5_1, rfl, rfl, rfl, HA, HK1, ⟨m1, rfl⟩⟩ := hrel
    cases gk with
    | zero => exact absurd HA.out (by simp [abacistref02_Mul.l0])
    | succ k1 =>
      have H := HA.out
      clear HA
      simp only [abacistref02_Mul.l0] at H
      by_cases c4 : x1_1 > 0
      · rw [if_pos c4] at H
        have c4b0 : decide (0 < x1_1) = true := decide_eq_true c4
        clear c4
        by_cases c5 : (Int.tmod x1_1 2) = 1
        · rw [if_pos c5] at H
          have c5b0 : ((Int.tmod x1_1 2) == 1) = true := beq_iff_eq.mpr c5
          have c5b1 : ((Int.tmod x1_1 2) != 1) = false := bne_eq_false_iff_eq.mpr c5
          clear c5
          replace H := Option.bind_eq_some_iff.mp H
          obtain ⟨t279, A60, H⟩ := H
          replace H : ((abacistref02_Add.f x0_1 x0_1).bind fun t280 => (abacistref02_Mul.l0 k1 t280 (IntKind.u64.wrap (Int.tdiv x1_1 2)) t279)) = some r := H
          have A6 := Aside0.mk A60
          clear A60
          replace H := Option.bind_eq_some_iff.mp H
          obtain ⟨t280, A70, H⟩ := H
          replace H : (abacistref02_Mul.l0 k1 t280 (IntKind.u64.wrap (Int.tdiv x1_1 2)) t279) = some r := H
          have A7 := Aside0.mk A70
          clear A70
          have H' := Aside0.mk H
          clear H
          go_wp2_with (first | ((with_reducible refine gate_callee (f := 18) rfl ?_); refine goesL_ (some 15) rfl rfl Try.func18 (by kernel_rfl) rfl #[.int .u64 x5_1, .int .u64 x0_1] rfl (by (try simp only [List.map_toArray, List.map_cons, List.map_nil]); first | done | rfl | (simp only [List.length_drop, List.length_take]; rfl)) ?_; (with_reducible refine (abacistref02_Add.calls x5_1 x0_1 t279 _ A6.out).mono ?_); rintro e w' ⟨rfl, ⟨nd, rfl⟩⟩; refine ⟨_, rfl, ?_⟩) | ((with_reducible refine gate_callee (f := 18) rfl ?_); refine goesL_ (some 18) rfl rfl Try.func18 (by kernel_rfl) rfl #[.int .u64 x0_1, .int .u64 x0_1] rfl (by (try simp only [List.map_toArray, List.map_cons, List.map_nil]); first | done | rfl | (simp only [List.length_drop, List.length_take]; rfl)) ?_; (with_reducible refine (abacistref02_Add.calls x0_1 x0_1 t280 _ A7.out).mono ?_); rintro e w' ⟨rfl, ⟨nd, rfl⟩⟩; refine ⟨_, rfl, ?_⟩))
          (first | go_roundg k1 | (simp only [add_plain] at *; go_roundg k1))
          case measure => have := HK1.out; omega
          case rel => exact ⟨(t280), (IntKind.u64.wrap (Int.tdiv x1_1 2)), (t279), (by first | rfl | (simp; done) | (simp [*]; done)), (by first | rfl | (simp; done) | (simp [*]; done)), (by first | rfl | (simp; done) | (simp [*]; done)), H', ⟨by have := HK1.out; omega⟩, by repeat (first | exact Drawn0.refl _ | apply Drawn0.step)⟩
        · rw [if_neg c5] at H
          have c5b0 : ((Int.tmod x1_1 2) == 1) = false := beq_eq_false_iff_ne.mpr c5
          have c5b1 : ((Int.tmod x1_1 2) != 1) = true := bne_iff_ne.mpr c5
          replace H := Option.bind_eq_some_iff.mp H
          obtain ⟨t281, A80, H⟩ := H
          replace H : (abacistref02_Mul.l0 k1 t281 (IntKind.u64.wrap (Int.tdiv x1_1 2)) x5_1) = some r := H
          have A8 := Aside0.mk A80
          clear A80
          have H' := Aside0.mk H
          clear H
          go_wp2_with (first | ((with_reducible refine gate_callee (f := 18) rfl ?_); refine goesL_ (some 18) rfl rfl Try.func18 (by kernel_rfl) rfl #[.int .u64 x0_1, .int .u64 x0_1] rfl (by (try simp only [List.map_toArray, List.map_cons, List.map_nil]); first | done | rfl | (simp only [List.length_drop, List.length_take]; rfl)) ?_; (with_reducible refine (abacistref02_Add.calls x0_1 x0_1 t281 _ A8.out).mono ?_); rintro e w' ⟨rfl, ⟨nd, rfl⟩⟩; refine ⟨_, rfl, ?_⟩))
          (first | go_roundg k1 | (simp only [add_plain] at *; go_roundg k1))
          case measure => have := HK1.out; omega
          case rel => exact ⟨(t281), (IntKind.u64.wrap (Int.tdiv x1_1 2)), (x5_1), (by first | rfl | (simp; done) | (simp [*]; done)), (by first | rfl | (simp; done) | (simp [*]; done)), (by first | rfl | (simp; done) | (simp [*]; done)), H', ⟨by have := HK1.out; omega⟩, by repeat (first | exact Drawn0.refl _ | apply Drawn0.step)⟩
      · rw [if_neg c4] at H
        have c4b0 : decide (0 < x1_1) = false := decide_eq_false c4
        clear c4
        obtain rfl := Option.some.inj H
        go_wp2
        go_ret
        exact ⟨by first | rfl | (simp; done) | (simp [*]; done), by repeat (first | exact Drawn0.refl _ | apply Drawn0.step)⟩

end Go.Proofs.Ytkgakohgbbapaaa.PTreeShifts
