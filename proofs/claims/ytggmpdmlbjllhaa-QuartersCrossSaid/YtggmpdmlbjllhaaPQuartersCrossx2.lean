-- Written for this claim by wip/gen/mk.sh, this session's own driver over the kit's print
import Derived.Test.YtggmpdmlbjllhaaPQuartersCrossx0
import Derived.Test.YtggmpdmlbjllhaaPQuartersCrossx1
namespace Go.Proofs.Ytggmpdmlbjllhaa.PQuartersCross
open Go.RowKit Go.Proofs.YtggmpdmlbjllhaaW.PrintWords Go.Proofs.YtggmpdmlbjllhaaW.PrintLast Go.Proofs.YtggmpdmlbjllhaaW.PrintMore
attribute [local go_sem] max2_int min2_int max_two min_two max_three min_three max_four min_four   -- for this text's walks alone
set_option linter.unusedVariables false
set_option linter.unusedSimpArgs false

/-! ### twid_Root: function 23 -/
def twid_Root.j0 : Nat → Int → Int → Bool → Option (Int × Int)
  | 0, _, _, _ => none
  | k + 1, x0, x1, x6 => if x6 = true then (some (0, 1)) else (if x1 = 0 then ((root_Root.f k x0).bind fun bt142 => (some (bt142.1, bt142.2))) else (if x1 = 1 then ((root_Back.f k x0).bind fun bt144 => (some (bt144.1, bt144.2))) else (some (0, 18))))
def twid_Root.f (k : Nat) (a0 : Int) (a1 : Int) : Option (Int × Int) := if a0 < 0 then (twid_Root.j0 k a0 a1 true) else (twid_Root.j0 k a0 a1 (decide (a0 > 32)))
theorem twid_Root.mono_l : ∀ k, (∀ y0 y1 y2, LeO (twid_Root.j0 k y0 y1 y2) (twid_Root.j0 (k + 1) y0 y1 y2))
  | 0 => fun _ _ _ r h => by simp [twid_Root.j0] at h
  | k + 1 => by
    have ih0 := twid_Root.mono_l k
    · intro y0 y1 y2
      unfold twid_Root.j0
      repeat' first
      | (with_reducible exact ih0 _ _ _)
      | (with_reducible exact root_Back.mono _ _)
      | (with_reducible exact root_Root.mono _ _)
      | (with_reducible exact LeO.refl _)
      | (with_reducible exact LeO.none _)
      | (with_reducible refine LeO.ite ?_ ?_)
      | (with_reducible refine LeO.bind ?_ (fun _ => ?_))
      | exact ih0 _ _ _
      | exact root_Back.mono _ _
      | exact root_Root.mono _ _
      | exact LeO.none _
      | refine LeO.ite ?_ ?_
      | refine LeO.bind ?_ (fun _ => ?_)
theorem twid_Root.mono : ∀ a0 a1 k, LeO (twid_Root.f k a0 a1) (twid_Root.f (k + 1) a0 a1) := by
  intro a0 a1 k
  have ih0 := twid_Root.mono_l k
  unfold twid_Root.f
  repeat' first
      | (with_reducible exact ih0 _ _ _)
      | (with_reducible exact root_Back.mono _ _)
      | (with_reducible exact root_Root.mono _ _)
      | (with_reducible exact LeO.refl _)
      | (with_reducible exact LeO.none _)
      | (with_reducible refine LeO.ite ?_ ?_)
      | (with_reducible refine LeO.bind ?_ (fun _ => ?_))
      | exact ih0 _ _ _
      | exact root_Back.mono _ _
      | exact root_Root.mono _ _
      | exact LeO.none _
      | refine LeO.ite ?_ ?_
      | refine LeO.bind ?_ (fun _ => ?_)
set_option maxHeartbeats 8000000 in
set_option maxRecDepth 100000 in
theorem twid_Root.calls (k : Nat) (a0 : Int) (a1 : Int) (r1 : Int) (r2 : Int) (w : World) (h : twid_Root.f k a0 a1 = some (r1, r2)) :
    Calls Try.prog 23 #[.int .i64 a0, .int .i64 a1] w fun e w' => e = .returned (.tuple #[.int .u64 r1, .int .i64 r2]) ∧ Below w.heap.size w w' := by
  have HB := Aside0.mk (Below.refl w.heap.size w)
  have H : (if a0 < 0 then (twid_Root.j0 k a0 a1 true) else (twid_Root.j0 k a0 a1 (decide (a0 > 32)))) = some (r1, r2) := h
  clear h
  have HC3 := Aside0.mk H
  clear H
  go_enter Try.func23, Try.ntmps23
  go_upto_region 1 with (fail)
  go_cut [6] (fun v6 wc => ∃ (kq : Nat) (x6_2 : Bool), v6 = .bool x6_2 ∧ Aside0 (twid_Root.j0 kq a0 a1 x6_2 = some (r1, r2)) ∧ Aside0 (kq ≤ k) ∧ Aside0 (Below w.heap.size w wc))
  case first =>
    have H := HC3.out
    clear HC3
    by_cases c4 : a0 < 0
    · rw [if_pos c4] at H
      have c4b0 : decide (a0 < 0) = true := decide_eq_true c4
      clear c4
      (first | rw [c4b0] | (simp only [i64_w, i32_w]; rw [c4b0]) | skip)
      have H' := Aside0.mk H
      clear H
      go_wp2
      go_meet
      case rel => exact ⟨_, (true), (by first | rfl | (simp; done) | (simp [*]; done)), H', ⟨by first | omega | exact Nat.le_refl _⟩, ⟨by repeat (first | (with_reducible first | exact HB.out | apply below_alloc | apply pw_below_drewN | apply below_drew1) | exact HB.out)⟩⟩
    · rw [if_neg c4] at H
      have c4b0 : decide (a0 < 0) = false := decide_eq_false c4
      clear c4
      (first | rw [c4b0] | (simp only [i64_w, i32_w]; rw [c4b0]) | skip)
      have H' := Aside0.mk H
      clear H
      go_wp2
      go_meet
      case rel => exact ⟨_, (decide (a0 > 32)), (by first | rfl | (simp; done) | (simp [*]; done)), H', ⟨by first | omega | exact Nat.le_refl _⟩, ⟨by repeat (first | (with_reducible first | exact HB.out | apply below_alloc | apply pw_below_drewN | apply below_drew1) | exact HB.out)⟩⟩
  case rest =>
    clear HC3
    try clear c2
    try clear p2
    try clear c4
    try clear c4b0
    obtain ⟨kq, x6_2, rfl, HA, HJ2, HB⟩ := hcut
    cases kq with
    | zero => exact absurd HA.out (by simp [twid_Root.j0])
    | succ kj2 =>
      have H := HA.out
      clear HA
      simp only [twid_Root.j0] at H
      by_cases c5 : x6_2 = true
      · subst c5
        have H1 : (some (0, 1)) = some (r1, r2) := by rw [if_pos rfl] at H; exact H
        clear H
        have H := H1
        clear H1
        simp only [Option.some.injEq, Prod.mk.injEq] at H
        obtain ⟨rfl, rfl⟩ := H
        go_wp2
        go_ret2
        exact ⟨by first | rfl | (simp [errW_none, errW_some] <;> rfl) | (simp [*, errW_none, errW_some] <;> rfl), by repeat (first | (with_reducible first | exact HB.out | apply below_alloc | apply pw_below_drewN | apply below_drew1) | exact HB.out)⟩
      · replace c5 := Bool.eq_false_iff.mpr c5
        subst c5
        have H1 : (if a1 = 0 then ((root_Root.f kj2 a0).bind fun bt142 => (some (bt142.1, bt142.2))) else (if a1 = 1 then ((root_Back.f kj2 a0).bind fun bt144 => (some (bt144.1, bt144.2))) else (some (0, 18)))) = some (r1, r2) := by rw [if_neg (show ¬ (false = true) by decide)] at H; exact H
        clear H
        have H := H1
        clear H1
        by_cases c6 : a1 = 0
        · rw [if_pos c6] at H
          have c6b0 : (a1 == 0) = true := beq_iff_eq.mpr c6
          have c6b1 : (a1 != 0) = false := bne_eq_false_iff_eq.mpr c6
          clear c6
          replace H := Option.bind_eq_some_iff.mp H
          obtain ⟨⟨t142, t143⟩, A70, H⟩ := H
          replace H : (some (t142, t143)) = some (r1, r2) := H
          have A7 := Aside0.mk A70
          clear A70
          simp only [Option.some.injEq, Prod.mk.injEq] at H
          obtain ⟨rfl, rfl⟩ := H
          go_wp2_with (first | ((with_reducible refine gate_callee (f := 38) rfl ?_); refine goesL_ (some 17) rfl rfl Try.func38 (by kernel_rfl) rfl #[.int .i64 a0] rfl (by (try simp only [List.map_toArray, List.map_cons, List.map_nil]); first | done | rfl | (simp only [List.length_drop, List.length_take]; rfl)) ?_; (with_reducible refine (root_Root.calls kj2 a0 t142 t143 _ A7.out).mono ?_); rintro e w8 ⟨rfl, hb⟩; refine ⟨_, rfl, ?_⟩; have n0_ := Aside0.mk (below_step (by repeat (first | (with_reducible first | exact HB.out | apply below_alloc | apply pw_below_drewN | apply below_drew1) | exact HB.out)) hb); clear HB; have HB := n0_; clear n0_; (try clear hb); (try clear hb2); (try clear hk); (try clear hi)))
          go_ret2
          exact ⟨by first | rfl | (simp [errW_none, errW_some] <;> rfl) | (simp [*, errW_none, errW_some] <;> rfl), by repeat (first | (with_reducible first | exact HB.out | apply below_alloc | apply pw_below_drewN | apply below_drew1) | exact HB.out)⟩
        · rw [if_neg c6] at H
          have c6b0 : (a1 == 0) = false := beq_eq_false_iff_ne.mpr c6
          have c6b1 : (a1 != 0) = true := bne_iff_ne.mpr c6
          by_cases c9 : a1 = 1
          · rw [if_pos c9] at H
            have c9b0 : (a1 == 1) = true := beq_iff_eq.mpr c9
            have c9b1 : (a1 != 1) = false := bne_eq_false_iff_eq.mpr c9
            clear c9
            replace H := Option.bind_eq_some_iff.mp H
            obtain ⟨⟨t144, t145⟩, A100, H⟩ := H
            replace H : (some (t144, t145)) = some (r1, r2) := H
            have A10 := Aside0.mk A100
            clear A100
            simp only [Option.some.injEq, Prod.mk.injEq] at H
            obtain ⟨rfl, rfl⟩ := H
            go_wp2_with (first | ((with_reducible refine gate_callee (f := 39) rfl ?_); refine goesL_ (some 24) rfl rfl Try.func39 (by kernel_rfl) rfl #[.int .i64 a0] rfl (by (try simp only [List.map_toArray, List.map_cons, List.map_nil]); first | done | rfl | (simp only [List.length_drop, List.length_take]; rfl)) ?_; (with_reducible refine (root_Back.calls kj2 a0 t144 t145 _ A10.out).mono ?_); rintro e w11 ⟨rfl, hb⟩; refine ⟨_, rfl, ?_⟩; have n0_ := Aside0.mk (below_step (by repeat (first | (with_reducible first | exact HB.out | apply below_alloc | apply pw_below_drewN | apply below_drew1) | exact HB.out)) hb); clear HB; have HB := n0_; clear n0_; (try clear hb); (try clear hb2); (try clear hk); (try clear hi)))
            go_ret2
            exact ⟨by first | rfl | (simp [errW_none, errW_some] <;> rfl) | (simp [*, errW_none, errW_some] <;> rfl), by repeat (first | (with_reducible first | exact HB.out | apply below_alloc | apply pw_below_drewN | apply below_drew1) | exact HB.out)⟩
          · rw [if_neg c9] at H
            have c9b0 : (a1 == 1) = false := beq_eq_false_iff_ne.mpr c9
            have c9b1 : (a1 != 1) = true := bne_iff_ne.mpr c9
            simp only [Option.some.injEq, Prod.mk.injEq] at H
            obtain ⟨rfl, rfl⟩ := H
            go_wp2
            go_ret2
            exact ⟨by first | rfl | (simp [errW_none, errW_some] <;> rfl) | (simp [*, errW_none, errW_some] <;> rfl), by repeat (first | (with_reducible first | exact HB.out | apply below_alloc | apply pw_below_drewN | apply below_drew1) | exact HB.out)⟩

/-! ### kern4_Unit: function 11 -/
def kern4_Unit.f (k : Nat) (a0 : Int) : Option (Int × Int) := (twid_Root.f k 2 a0).bind fun bt146 => (some (bt146.1, bt146.2))
theorem kern4_Unit.mono : ∀ a0 k, LeO (kern4_Unit.f k a0) (kern4_Unit.f (k + 1) a0) := by
  intro a0 k
  unfold kern4_Unit.f
  repeat' first
      | (with_reducible exact twid_Root.mono _ _ _)
      | (with_reducible exact LeO.refl _)
      | (with_reducible exact LeO.none _)
      | (with_reducible refine LeO.ite ?_ ?_)
      | (with_reducible refine LeO.bind ?_ (fun _ => ?_))
      | exact twid_Root.mono _ _ _
      | exact LeO.none _
      | refine LeO.ite ?_ ?_
      | refine LeO.bind ?_ (fun _ => ?_)
set_option maxHeartbeats 8000000 in
set_option maxRecDepth 100000 in
theorem kern4_Unit.calls (k : Nat) (a0 : Int) (r1 : Int) (r2 : Int) (w : World) (h : kern4_Unit.f k a0 = some (r1, r2)) :
    Calls Try.prog 11 #[.int .i64 a0] w fun e w' => e = .returned (.tuple #[.int .u64 r1, .int .i64 r2]) ∧ Below w.heap.size w w' := by
  have HB := Aside0.mk (Below.refl w.heap.size w)
  have H : ((twid_Root.f k 2 a0).bind fun bt146 => (some (bt146.1, bt146.2))) = some (r1, r2) := h
  clear h
  replace H := Option.bind_eq_some_iff.mp H
  obtain ⟨⟨t146, t147⟩, A20, H⟩ := H
  replace H : (some (t146, t147)) = some (r1, r2) := H
  have A2 := Aside0.mk A20
  clear A20
  simp only [Option.some.injEq, Prod.mk.injEq] at H
  obtain ⟨rfl, rfl⟩ := H
  go_enter Try.func11, Try.ntmps11
  go_wp2_with (first | ((with_reducible refine gate_callee (f := 23) rfl ?_); refine goesL_ (some 5) rfl rfl Try.func23 (by kernel_rfl) rfl #[.int .i64 2, .int .i64 a0] rfl (by (try simp only [List.map_toArray, List.map_cons, List.map_nil]); first | done | rfl | (simp only [List.length_drop, List.length_take]; rfl)) ?_; (with_reducible refine (twid_Root.calls k 2 a0 t146 t147 _ A2.out).mono ?_); rintro e w3 ⟨rfl, hb⟩; refine ⟨_, rfl, ?_⟩; have n0_ := Aside0.mk (below_step (by repeat (first | (with_reducible first | exact HB.out | apply below_alloc | apply pw_below_drewN | apply below_drew1) | exact HB.out)) hb); clear HB; have HB := n0_; clear n0_; (try clear hb); (try clear hb2); (try clear hk); (try clear hi)))
  go_ret2
  exact ⟨by first | rfl | (simp [errW_none, errW_some] <;> rfl) | (simp [*, errW_none, errW_some] <;> rfl), by repeat (first | (with_reducible first | exact HB.out | apply below_alloc | apply pw_below_drewN | apply below_drew1) | exact HB.out)⟩

/-! ### abacistlaw10_awake: function 5 (by hand) -/
theorem hk4_part {P : Program} (w : World) (e : TypeId) (cs : Array Value) (i : Nat) (k : IntKind) (a : Int) (he : P.underlying e = some (.int k)) (hi : (P.info? e).map (·.size) = some 1) (hc : cs[i]? = some (.int k a)) : (part e cs i).run P w = .ok (.int k a) w := by
  cases hq : P.info? e with
  | none => simp [hq] at hi
  | some j =>
    have hs : j.size = 1 := by simpa [hq] using hi
    have hg := Array.getElem?_eq_some_iff.1 hc
    obtain ⟨h1, h2⟩ := hg
    simp [part, sizeOf, typeInfo, hq, hs, isAgg, run_underlying he, Sem.run_bind, h1, h2, hc]
theorem hk4_eqIn {P : Program} (w : World) (t e : TypeId) (a b c d : Int) (ht : P.underlying t = some (.array 4 e)) (he : P.underlying e = some (.int .u64)) (hi : (P.info? e).map (·.size) = some 1) :
    (Op.equalIn 10000 t (.agg #[.int .u64 a, .int .u64 b, .int .u64 c, .int .u64 d]) (.agg #[.int .u64 a, .int .u64 b, .int .u64 c, .int .u64 d])).run P w = .ok true w := by
  have h0 := hk4_part w e #[.int .u64 a, .int .u64 b, .int .u64 c, .int .u64 d] 0 .u64 a he hi rfl
  have h1 := hk4_part w e #[.int .u64 a, .int .u64 b, .int .u64 c, .int .u64 d] 1 .u64 b he hi rfl
  have h2 := hk4_part w e #[.int .u64 a, .int .u64 b, .int .u64 c, .int .u64 d] 2 .u64 c he hi rfl
  have h3 := hk4_part w e #[.int .u64 a, .int .u64 b, .int .u64 c, .int .u64 d] 3 .u64 d he hi rfl
  have hS : (sizeOf e).run P w = .ok 1 w := by
    cases hq : P.info? e with
    | none => simp [hq] at hi
    | some j => have hs : j.size = 1 := by simpa [hq] using hi
                simp [sizeOf, typeInfo, hq, hs]
  obtain ⟨m, hm⟩ : ∃ m : Nat, m = 9999 := ⟨_, rfl⟩
  have q : ∀ x : Int, (Op.equalIn m e (.int .u64 x) (.int .u64 x)).run P w = .ok true w := fun x => by rw [hm, run_equalIn_int w 9998 e .u64 .u64 x x he]; simp
  rw [show (10000 : Nat) = m + 1 by omega]
  clear hm
  simp only [Op.equalIn, Sem.run_bind, run_underlying ht, Result.andThen_ok, hS, Nat.mul_one]
  simp [Std.Legacy.Range.forIn_eq_forIn_range', Std.Legacy.Range.size, List.range', Sem.run_bind, h0, h1, h2, h3, q]
theorem hk4_eql {P : Program} (w : World) (t e : TypeId) (a b c d : Int) (ht : P.underlying t = some (.array 4 e)) (he : P.underlying e = some (.int .u64)) (hi : (P.info? e).map (·.size) = some 1) :
    (binOp .eql t (.agg #[.int .u64 a, .int .u64 b, .int .u64 c, .int .u64 d]) (.agg #[.int .u64 a, .int .u64 b, .int .u64 c, .int .u64 d])).run P w = .ok (.bool true) w := by
  rw [run_eql_struct w, hk4_eqIn w t e a b c d ht he hi]; rfl
theorem hk4_neq {P : Program} (w : World) (t e : TypeId) (a b c d : Int) (ht : P.underlying t = some (.array 4 e)) (he : P.underlying e = some (.int .u64)) (hi : (P.info? e).map (·.size) = some 1) :
    (binOp .neq t (.agg #[.int .u64 a, .int .u64 b, .int .u64 c, .int .u64 d]) (.agg #[.int .u64 a, .int .u64 b, .int .u64 c, .int .u64 d])).run P w = .ok (.bool false) w := by
  rw [run_neq_struct w, hk4_eqIn w t e a b c d ht he hi]; rfl
def abacistlaw10_awake.f (k : Nat) : Option Bool := (hk_crossO 1 0 0 0 5).bind fun y => if y = (1, 1, 1, 1) then (kern4_Unit.f k 0).bind fun u => if u = (281474976710656, 0) then some true else none else none
theorem hk_awake4 {k : Nat} {r : Bool} (h : abacistlaw10_awake.f k = some r) : hk_crossO 1 0 0 0 5 = some (1, 1, 1, 1) ∧ kern4_Unit.f k 0 = some (281474976710656, 0) ∧ r = true := by
  unfold abacistlaw10_awake.f at h
  obtain ⟨y, h1, h3⟩ := Option.bind_eq_some_iff.1 h
  by_cases c1 : y = (1, 1, 1, 1)
  · rw [if_pos c1] at h3
    obtain ⟨u, h2, h4⟩ := Option.bind_eq_some_iff.1 h3
    by_cases c2 : u = (281474976710656, 0)
    · rw [if_pos c2] at h4
      exact ⟨h1.trans (congrArg some c1), h2.trans (congrArg some c2), (Option.some.inj h4).symm⟩
    · rw [if_neg c2] at h4; cases h4
  · rw [if_neg c1] at h3; cases h3
set_option maxHeartbeats 8000000 in
set_option maxRecDepth 100000 in
theorem abacistlaw10_awake.calls (k : Nat) (r : Bool) (w : World) (h : abacistlaw10_awake.f k = some r) :
    Calls Try.prog 5 #[] w fun e w' => e = .returned (.bool r) ∧ Below w.heap.size w w' := by
  obtain ⟨h1, h2, rfl⟩ := hk_awake4 h
  have A1 := Aside0.mk h1
  have A2 := Aside0.mk h2
  clear h1 h2 h
  go_enter Try.func5, Try.ntmps5
  go_wp2_with (first | (go_at_call 6; (with_reducible refine (kern4_Cross.callsO 1 0 0 0 5 1 1 1 1 _ A1.out).mono ?_); rintro e w1 ⟨rfl, hb1⟩; have hb1 := Aside0.mk hb1))
  have BK := Aside0.mk (show (w1.alloc (.cells #[.int .u64 1, .int .u64 1, .int .u64 1, .int .u64 1] 24)).heap[w1.heap.size]? = some (.cells #[.int .u64 1, .int .u64 1, .int .u64 1, .int .u64 1] 24 (0,0)) from Array.getElem?_push_size)
  have HB := Aside0.mk (hb1.out.alloc hb1.out.size (.cells #[.int .u64 1, .int .u64 1, .int .u64 1, .int .u64 1] 24))
  have BZ := Aside0.mk (show w1.heap.size < (w1.alloc (.cells #[.int .u64 1, .int .u64 1, .int .u64 1, .int .u64 1] 24)).heap.size by simp)
  clear hb1
  obtain ⟨bb, hbb⟩ : ∃ b, b = w1.heap.size := ⟨_, rfl⟩
  rw [← hbb] at BK BZ ⊢
  clear hbb
  generalize w1.alloc (.cells #[.int .u64 1, .int .u64 1, .int .u64 1, .int .u64 1] 24) = W1 at BK HB BZ ⊢
  have hE : ∀ W, (binOp .eql 24 (.agg #[.int .u64 1, .int .u64 1, .int .u64 1, .int .u64 1]) (.agg #[.int .u64 1, .int .u64 1, .int .u64 1, .int .u64 1])).run Try.prog W = .ok (.bool true) W := fun W => hk4_eql W 24 22 1 1 1 1 Try.underlying24 Try.underlying22 (by kernel_rfl)
  (with_reducible refine (kern4_Unit.calls k 0 281474976710656 0 _ A2.out).mono ?_)
  rintro e w2 ⟨rfl, hb2⟩
  have BK2 := Aside0.mk ((hb2.block _ BZ.out).trans BK.out)
  have HB2 := Aside0.mk (HB.out.trans (hb2.mono HB.out.size))
  clear hb2 BK HB BZ
  go_wp2_with ((with_reducible refine wpList_load_row rfl 24 (.tmp 1) rfl bb rfl 24 _ (0, 0) _ BK2.out Try.underlying24 rfl (by kernel_rfl) ?_))
  go_ret
  exact ⟨rfl, HB2.out⟩

/-! ### abacistref02_Of: function 22 -/
def abacistref02_Of.f (a0 : Int) : Option (Int) := some (Int.tmod a0 18446744069414584321)
set_option maxHeartbeats 8000000 in
set_option maxRecDepth 100000 in
theorem abacistref02_Of.calls (a0 : Int) (r : Int) (w : World) (h : abacistref02_Of.f a0 = some r) :
    Calls Try.prog 22 #[.int .u64 a0] w fun e w' => e = .returned (.int .u64 r) ∧ Drawn0 w w' := by
  have H : (some (Int.tmod a0 18446744069414584321)) = some r := h
  clear h
  obtain rfl := Option.some.inj H
  go_enter Try.func22, Try.ntmps22
  go_wp2
  go_ret
  exact ⟨by first | rfl | (simp; done) | (simp [*]; done), by repeat (first | exact Drawn0.refl _ | apply Drawn0.step)⟩

/-! ### abacistref02_Add: function 7 -/
def abacistref02_Add.f (a0 : Int) (a1 : Int) : Option (Int) := (abacistref02_Of.f a0).bind fun t148 => ((abacistref02_Of.f a1).bind fun t149 => (if t148 ≥ (IntKind.u64.wrap (18446744069414584321 - t149)) then (some (IntKind.u64.wrap (t148 - (IntKind.u64.wrap (18446744069414584321 - t149))))) else (some (IntKind.u64.wrap (t148 + t149)))))
set_option maxHeartbeats 8000000 in
set_option maxRecDepth 100000 in
theorem abacistref02_Add.calls (a0 : Int) (a1 : Int) (r : Int) (w : World) (h : abacistref02_Add.f a0 a1 = some r) :
    Calls Try.prog 7 #[.int .u64 a0, .int .u64 a1] w fun e w' => e = .returned (.int .u64 r) ∧ Drawn0 w w' := by
  have H : ((abacistref02_Of.f a0).bind fun t148 => ((abacistref02_Of.f a1).bind fun t149 => (if t148 ≥ (IntKind.u64.wrap (18446744069414584321 - t149)) then (some (IntKind.u64.wrap (t148 - (IntKind.u64.wrap (18446744069414584321 - t149))))) else (some (IntKind.u64.wrap (t148 + t149)))))) = some r := h
  clear h
  replace H := Option.bind_eq_some_iff.mp H
  obtain ⟨t148, A30, H⟩ := H
  replace H : ((abacistref02_Of.f a1).bind fun t149 => (if t148 ≥ (IntKind.u64.wrap (18446744069414584321 - t149)) then (some (IntKind.u64.wrap (t148 - (IntKind.u64.wrap (18446744069414584321 - t149))))) else (some (IntKind.u64.wrap (t148 + t149))))) = some r := H
  have A3 := Aside0.mk A30
  clear A30
  replace H := Option.bind_eq_some_iff.mp H
  obtain ⟨t149, A40, H⟩ := H
  replace H : (if t148 ≥ (IntKind.u64.wrap (18446744069414584321 - t149)) then (some (IntKind.u64.wrap (t148 - (IntKind.u64.wrap (18446744069414584321 - t149))))) else (some (IntKind.u64.wrap (t148 + t149)))) = some r := H
  have A4 := Aside0.mk A40
  clear A40
  by_cases c5 : t148 ≥ (IntKind.u64.wrap (18446744069414584321 - t149))
  · rw [if_pos c5] at H
    have c5b0 : decide ((IntKind.u64.wrap (18446744069414584321 - t149)) ≤ t148) = true := decide_eq_true c5
    clear c5
    obtain rfl := Option.some.inj H
    go_enter Try.func7, Try.ntmps7
    go_wp2_with (first | ((with_reducible refine gate_callee (f := 22) rfl ?_); refine goesL_ (some 6) rfl rfl Try.func22 (by kernel_rfl) rfl #[.int .u64 a0] rfl (by (try simp only [List.map_toArray, List.map_cons, List.map_nil]); first | done | rfl | (simp only [List.length_drop, List.length_take]; rfl)) ?_; (with_reducible refine (abacistref02_Of.calls a0 t148 _ A3.out).mono ?_); rintro e w' ⟨rfl, ⟨nd, rfl⟩⟩; refine ⟨_, rfl, ?_⟩) | ((with_reducible refine gate_callee (f := 22) rfl ?_); refine goesL_ (some 8) rfl rfl Try.func22 (by kernel_rfl) rfl #[.int .u64 a1] rfl (by (try simp only [List.map_toArray, List.map_cons, List.map_nil]); first | done | rfl | (simp only [List.length_drop, List.length_take]; rfl)) ?_; (with_reducible refine (abacistref02_Of.calls a1 t149 _ A4.out).mono ?_); rintro e w' ⟨rfl, ⟨nd, rfl⟩⟩; refine ⟨_, rfl, ?_⟩))
    go_ret
    exact ⟨by first | rfl | (simp; done) | (simp [*]; done), by repeat (first | exact Drawn0.refl _ | apply Drawn0.step)⟩
  · rw [if_neg c5] at H
    have c5b0 : decide ((IntKind.u64.wrap (18446744069414584321 - t149)) ≤ t148) = false := decide_eq_false c5
    clear c5
    obtain rfl := Option.some.inj H
    go_enter Try.func7, Try.ntmps7
    go_wp2_with (first | ((with_reducible refine gate_callee (f := 22) rfl ?_); refine goesL_ (some 6) rfl rfl Try.func22 (by kernel_rfl) rfl #[.int .u64 a0] rfl (by (try simp only [List.map_toArray, List.map_cons, List.map_nil]); first | done | rfl | (simp only [List.length_drop, List.length_take]; rfl)) ?_; (with_reducible refine (abacistref02_Of.calls a0 t148 _ A3.out).mono ?_); rintro e w' ⟨rfl, ⟨nd, rfl⟩⟩; refine ⟨_, rfl, ?_⟩) | ((with_reducible refine gate_callee (f := 22) rfl ?_); refine goesL_ (some 8) rfl rfl Try.func22 (by kernel_rfl) rfl #[.int .u64 a1] rfl (by (try simp only [List.map_toArray, List.map_cons, List.map_nil]); first | done | rfl | (simp only [List.length_drop, List.length_take]; rfl)) ?_; (with_reducible refine (abacistref02_Of.calls a1 t149 _ A4.out).mono ?_); rintro e w' ⟨rfl, ⟨nd, rfl⟩⟩; refine ⟨_, rfl, ?_⟩))
    go_ret
    exact ⟨by first | rfl | (simp; done) | (simp [*]; done), by repeat (first | exact Drawn0.refl _ | apply Drawn0.step)⟩

/-! ### abacistref02_Sub: function 8 -/
def abacistref02_Sub.f (a0 : Int) (a1 : Int) : Option (Int) := (abacistref02_Of.f a0).bind fun t150 => ((abacistref02_Of.f a1).bind fun t151 => (if t150 ≥ t151 then (some (IntKind.u64.wrap (t150 - t151))) else (some (IntKind.u64.wrap (18446744069414584321 - (IntKind.u64.wrap (t151 - t150)))))))
set_option maxHeartbeats 8000000 in
set_option maxRecDepth 100000 in
theorem abacistref02_Sub.calls (a0 : Int) (a1 : Int) (r : Int) (w : World) (h : abacistref02_Sub.f a0 a1 = some r) :
    Calls Try.prog 8 #[.int .u64 a0, .int .u64 a1] w fun e w' => e = .returned (.int .u64 r) ∧ Drawn0 w w' := by
  have H : ((abacistref02_Of.f a0).bind fun t150 => ((abacistref02_Of.f a1).bind fun t151 => (if t150 ≥ t151 then (some (IntKind.u64.wrap (t150 - t151))) else (some (IntKind.u64.wrap (18446744069414584321 - (IntKind.u64.wrap (t151 - t150)))))))) = some r := h
  clear h
  replace H := Option.bind_eq_some_iff.mp H
  obtain ⟨t150, A30, H⟩ := H
  replace H : ((abacistref02_Of.f a1).bind fun t151 => (if t150 ≥ t151 then (some (IntKind.u64.wrap (t150 - t151))) else (some (IntKind.u64.wrap (18446744069414584321 - (IntKind.u64.wrap (t151 - t150))))))) = some r := H
  have A3 := Aside0.mk A30
  clear A30
  replace H := Option.bind_eq_some_iff.mp H
  obtain ⟨t151, A40, H⟩ := H
  replace H : (if t150 ≥ t151 then (some (IntKind.u64.wrap (t150 - t151))) else (some (IntKind.u64.wrap (18446744069414584321 - (IntKind.u64.wrap (t151 - t150)))))) = some r := H
  have A4 := Aside0.mk A40
  clear A40
  by_cases c5 : t150 ≥ t151
  · rw [if_pos c5] at H
    have c5b0 : decide (t151 ≤ t150) = true := decide_eq_true c5
    clear c5
    obtain rfl := Option.some.inj H
    go_enter Try.func8, Try.ntmps8
    go_wp2_with (first | ((with_reducible refine gate_callee (f := 22) rfl ?_); refine goesL_ (some 6) rfl rfl Try.func22 (by kernel_rfl) rfl #[.int .u64 a0] rfl (by (try simp only [List.map_toArray, List.map_cons, List.map_nil]); first | done | rfl | (simp only [List.length_drop, List.length_take]; rfl)) ?_; (with_reducible refine (abacistref02_Of.calls a0 t150 _ A3.out).mono ?_); rintro e w' ⟨rfl, ⟨nd, rfl⟩⟩; refine ⟨_, rfl, ?_⟩) | ((with_reducible refine gate_callee (f := 22) rfl ?_); refine goesL_ (some 8) rfl rfl Try.func22 (by kernel_rfl) rfl #[.int .u64 a1] rfl (by (try simp only [List.map_toArray, List.map_cons, List.map_nil]); first | done | rfl | (simp only [List.length_drop, List.length_take]; rfl)) ?_; (with_reducible refine (abacistref02_Of.calls a1 t151 _ A4.out).mono ?_); rintro e w' ⟨rfl, ⟨nd, rfl⟩⟩; refine ⟨_, rfl, ?_⟩))
    go_ret
    exact ⟨by first | rfl | (simp; done) | (simp [*]; done), by repeat (first | exact Drawn0.refl _ | apply Drawn0.step)⟩
  · rw [if_neg c5] at H
    have c5b0 : decide (t151 ≤ t150) = false := decide_eq_false c5
    clear c5
    obtain rfl := Option.some.inj H
    go_enter Try.func8, Try.ntmps8
    go_wp2_with (first | ((with_reducible refine gate_callee (f := 22) rfl ?_); refine goesL_ (some 6) rfl rfl Try.func22 (by kernel_rfl) rfl #[.int .u64 a0] rfl (by (try simp only [List.map_toArray, List.map_cons, List.map_nil]); first | done | rfl | (simp only [List.length_drop, List.length_take]; rfl)) ?_; (with_reducible refine (abacistref02_Of.calls a0 t150 _ A3.out).mono ?_); rintro e w' ⟨rfl, ⟨nd, rfl⟩⟩; refine ⟨_, rfl, ?_⟩) | ((with_reducible refine gate_callee (f := 22) rfl ?_); refine goesL_ (some 8) rfl rfl Try.func22 (by kernel_rfl) rfl #[.int .u64 a1] rfl (by (try simp only [List.map_toArray, List.map_cons, List.map_nil]); first | done | rfl | (simp only [List.length_drop, List.length_take]; rfl)) ?_; (with_reducible refine (abacistref02_Of.calls a1 t151 _ A4.out).mono ?_); rintro e w' ⟨rfl, ⟨nd, rfl⟩⟩; refine ⟨_, rfl, ?_⟩))
    go_ret
    exact ⟨by first | rfl | (simp; done) | (simp [*]; done), by repeat (first | exact Drawn0.refl _ | apply Drawn0.step)⟩

/-! ### abacistref02_Mul: function 9 -/
def abacistref02_Mul.l0 : Nat → Int → Int → Int → Option (Int)
  | 0, _, _, _ => none
  | k + 1, x0, x1, x5 => if x1 > 0 then (if (Int.tmod x1 2) = 1 then ((abacistref02_Add.f x5 x0).bind fun t153 => ((abacistref02_Add.f x0 x0).bind fun t154 => (abacistref02_Mul.l0 k t154 (IntKind.u64.wrap (Int.tdiv x1 2)) t153))) else ((abacistref02_Add.f x0 x0).bind fun t155 => (abacistref02_Mul.l0 k t155 (IntKind.u64.wrap (Int.tdiv x1 2)) x5))) else (some x5)
def abacistref02_Mul.f (k : Nat) (a0 : Int) (a1 : Int) : Option (Int) := (abacistref02_Of.f a0).bind fun t152 => (abacistref02_Mul.l0 k t152 a1 0)
theorem abacistref02_Mul.mono_l : ∀ k, (∀ y0 y1 y2, LeO (abacistref02_Mul.l0 k y0 y1 y2) (abacistref02_Mul.l0 (k + 1) y0 y1 y2))
  | 0 => fun _ _ _ r h => by simp [abacistref02_Mul.l0] at h
  | k + 1 => by
    have ih0 := abacistref02_Mul.mono_l k
    · intro y0 y1 y2
      unfold abacistref02_Mul.l0
      repeat' first
      | (with_reducible exact ih0 _ _ _)
      | (with_reducible exact LeO.refl _)
      | (with_reducible exact LeO.none _)
      | (with_reducible refine LeO.ite ?_ ?_)
      | (with_reducible refine LeO.bind ?_ (fun _ => ?_))
      | exact ih0 _ _ _
      | exact LeO.none _
      | refine LeO.ite ?_ ?_
      | refine LeO.bind ?_ (fun _ => ?_)
theorem abacistref02_Mul.mono : ∀ a0 a1 k, LeO (abacistref02_Mul.f k a0 a1) (abacistref02_Mul.f (k + 1) a0 a1) := by
  intro a0 a1 k
  have ih0 := abacistref02_Mul.mono_l k
  unfold abacistref02_Mul.f
  repeat' first
      | (with_reducible exact ih0 _ _ _)
      | (with_reducible exact LeO.refl _)
      | (with_reducible exact LeO.none _)
      | (with_reducible refine LeO.ite ?_ ?_)
      | (with_reducible refine LeO.bind ?_ (fun _ => ?_))
      | exact ih0 _ _ _
      | exact LeO.none _
      | refine LeO.ite ?_ ?_
      | refine LeO.bind ?_ (fun _ => ?_)
set_option maxHeartbeats 8000000 in
set_option maxRecDepth 100000 in
theorem abacistref02_Mul.calls (k : Nat) (a0 : Int) (a1 : Int) (r : Int) (w : World) (h : abacistref02_Mul.f k a0 a1 = some r) :
    Calls Try.prog 9 #[.int .u64 a0, .int .u64 a1] w fun e w' => e = .returned (.int .u64 r) ∧ Drawn0 w w' := by
  have H : ((abacistref02_Of.f a0).bind fun t152 => (abacistref02_Mul.l0 k t152 a1 0)) = some r := h
  clear h
  replace H := Option.bind_eq_some_iff.mp H
  obtain ⟨t152, A30, H⟩ := H
  replace H : (abacistref02_Mul.l0 k t152 a1 0) = some r := H
  have A3 := Aside0.mk A30
  clear A30
  have H' := Aside0.mk H
  clear H
  go_enter Try.func9, Try.ntmps9
  go_wp2_with (first | ((with_reducible refine gate_callee (f := 22) rfl ?_); refine goesL_ (some 7) rfl rfl Try.func22 (by kernel_rfl) rfl #[.int .u64 a0] rfl (by (try simp only [List.map_toArray, List.map_cons, List.map_nil]); first | done | rfl | (simp only [List.length_drop, List.length_take]; rfl)) ?_; (with_reducible refine (abacistref02_Of.calls a0 t152 _ A3.out).mono ?_); rintro e w' ⟨rfl, ⟨nd, rfl⟩⟩; refine ⟨_, rfl, ?_⟩))
  go_loopg [0, 1, 5] k (fun kq v0 v1 v5 w' => ∃ (x0_1 : Int) (x1_1 : Int) (x5_1 : Int), v0 = .int .u64 x0_1 ∧ v1 = .int .u64 x1_1 ∧ v5 = .int .u64 x5_1 ∧ Aside0 (abacistref02_Mul.l0 kq x0_1 x1_1 x5_1 = some r) ∧ Aside0 (kq ≤ k) ∧ Drawn0 w w')
  case atStart => exact ⟨(t152), (a1), (0), (by first | rfl | (simp; done) | (simp [*]; done)), (by first | rfl | (simp; done) | (simp [*]; done)), (by first | rfl | (simp; done) | (simp [*]; done)), H', ⟨Nat.le_refl _⟩, by repeat (first | exact Drawn0.refl _ | apply Drawn0.step)⟩
  case round =>
    clear H'
    try clear c2
    try clear p2
    obtain ⟨x0_1, x1_1, x5_1, rfl, rfl, rfl, HA, HK1, ⟨m1, rfl⟩⟩ := hrel
    cases gk with
    | zero => exact absurd HA.out (by simp [abacistref02_Mul.l0])
    | succ k1 =>
      have H := HA.out
      clear HA
      simp only [abacistref02_Mul.l0] at H
      by_cases c4 : x1_1 > 0
      · rw [if_pos c4] at H
        have c4b0 : decide (0 < x1_1) = true := decide_eq_true c4
        clear c4
        by_cases c5 : (Int.tmod x1_1 2) = 1
        · rw [if_pos c5] at H
          have c5b0 : ((Int.tmod x1_1 2) == 1) = true := beq_iff_eq.mpr c5
          have c5b1 : ((Int.tmod x1_1 2) != 1) = false := bne_eq_false_iff_eq.mpr c5
          clear c5
          replace H := Option.bind_eq_some_iff.mp H
          obtain ⟨t153, A60, H⟩ := H
          replace H : ((abacistref02_Add.f x0_1 x0_1).bind fun t154 => (abacistref02_Mul.l0 k1 t154 (IntKind.u64.wrap (Int.tdiv x1_1 2)) t153)) = some r := H
          have A6 := Aside0.mk A60
          clear A60
          replace H := Option.bind_eq_some_iff.mp H
          obtain ⟨t154, A70, H⟩ := H
          replace H : (abacistref02_Mul.l0 k1 t154 (IntKind.u64.wrap (Int.tdiv x1_1 2)) t153) = some r := H
          have A7 := Aside0.mk A70
          clear A70
          have H' := Aside0.mk H
          clear H
          go_wp2_with (first | ((with_reducible refine gate_callee (f := 7) rfl ?_); refine goesL_ (some 15) rfl rfl Try.func7 (by kernel_rfl) rfl #[.int .u64 x5_1, .int .u64 x0_1] rfl (by (try simp only [List.map_toArray, List.map_cons, List.map_nil]); first | done | rfl | (simp only [List.length_drop, List.length_take]; rfl)) ?_; (with_reducible refine (abacistref02_Add.calls x5_1 x0_1 t153 _ A6.out).mono ?_); rintro e w' ⟨rfl, ⟨nd, rfl⟩⟩; refine ⟨_, rfl, ?_⟩) | ((with_reducible refine gate_callee (f := 7) rfl ?_); refine goesL_ (some 18) rfl rfl Try.func7 (by kernel_rfl) rfl #[.int .u64 x0_1, .int .u64 x0_1] rfl (by (try simp only [List.map_toArray, List.map_cons, List.map_nil]); first | done | rfl | (simp only [List.length_drop, List.length_take]; rfl)) ?_; (with_reducible refine (abacistref02_Add.calls x0_1 x0_1 t154 _ A7.out).mono ?_); rintro e w' ⟨rfl, ⟨nd, rfl⟩⟩; refine ⟨_, rfl, ?_⟩))
          (first | go_roundg k1 | (simp only [add_plain] at *; go_roundg k1))
          case measure => have := HK1.out; omega
          case rel => exact ⟨(t154), (IntKind.u64.wrap (Int.tdiv x1_1 2)), (t153), (by first | rfl | (simp; done) | (simp [*]; done)), (by first | rfl | (simp; done) | (simp [*]; done)), (by first | rfl | (simp; done) | (simp [*]; done)), H', ⟨by have := HK1.out; omega⟩, by repeat (first | exact Drawn0.refl _ | apply Drawn0.step)⟩
        · rw [if_neg c5] at H
          have c5b0 : ((Int.tmod x1_1 2) == 1) = false := beq_eq_false_iff_ne.mpr c5
          have c5b1 : ((Int.tmod x1_1 2) != 1) = true := bne_iff_ne.mpr c5
          replace H := Option.bind_eq_some_iff.mp H
          obtain ⟨t155, A80, H⟩ := H
          replace H : (abacistref02_Mul.l0 k1 t155 (IntKind.u64.wrap (Int.tdiv x1_1 2)) x5_1) = some r := H
          have A8 := Aside0.mk A80
          clear A80
          have H' := Aside0.mk H
          clear H
          go_wp2_with (first | ((with_reducible refine gate_callee (f := 7) rfl ?_); refine goesL_ (some 18) rfl rfl Try.func7 (by kernel_rfl) rfl #[.int .u64 x0_1, .int .u64 x0_1] rfl (by (try simp only [List.map_toArray, List.map_cons, List.map_nil]); first | done | rfl | (simp only [List.length_drop, List.length_take]; rfl)) ?_; (with_reducible refine (abacistref02_Add.calls x0_1 x0_1 t155 _ A8.out).mono ?_); rintro e w' ⟨rfl, ⟨nd, rfl⟩⟩; refine ⟨_, rfl, ?_⟩))
          (first | go_roundg k1 | (simp only [add_plain] at *; go_roundg k1))
          case measure => have := HK1.out; omega
          case rel => exact ⟨(t155), (IntKind.u64.wrap (Int.tdiv x1_1 2)), (x5_1), (by first | rfl | (simp; done) | (simp [*]; done)), (by first | rfl | (simp; done) | (simp [*]; done)), (by first | rfl | (simp; done) | (simp [*]; done)), H', ⟨by have := HK1.out; omega⟩, by repeat (first | exact Drawn0.refl _ | apply Drawn0.step)⟩
      · rw [if_neg c4] at H
        have c4b0 : decide (0 < x1_1) = false := decide_eq_false c4
        clear c4
        obtain rfl := Option.some.inj H
        go_wp2
        go_ret
        exact ⟨by first | rfl | (simp; done) | (simp [*]; done), by repeat (first | exact Drawn0.refl _ | apply Drawn0.step)⟩

/-! ### kern4_Steps: function 10 -/
def kern4_Steps.f (a0 : Int) : Option (Int × Int × Int) := if a0 < 0 then (some (0, 0, 1)) else (if a0 > 20 then (some (0, 0, 1)) else (some (wrap64 (Int.tdiv a0 2), Int.tmod a0 2, 0)))
set_option maxHeartbeats 8000000 in
set_option maxRecDepth 100000 in
theorem kern4_Steps.calls (a0 : Int) (r1 : Int) (r2 : Int) (r3 : Int) (w : World) (h : kern4_Steps.f a0 = some (r1, r2, r3)) :
    Calls Try.prog 10 #[.int .i64 a0] w fun e w' => e = .returned (.tuple #[.int .i64 r1, .int .i64 r2, .int .i64 r3]) ∧ Drawn0 w w' := by
  have H : (if a0 < 0 then (some (0, 0, 1)) else (if a0 > 20 then (some (0, 0, 1)) else (some (wrap64 (Int.tdiv a0 2), Int.tmod a0 2, 0)))) = some (r1, r2, r3) := h
  clear h
  by_cases c2 : a0 < 0
  · rw [if_pos c2] at H
    have c2b0 : decide (a0 < 0) = true := decide_eq_true c2
    clear c2
    simp only [Option.some.injEq, Prod.mk.injEq] at H
    obtain ⟨rfl, rfl, rfl⟩ := H
    go_enter Try.func10, Try.ntmps10
    go_wp2
    go_ret3
    exact ⟨by first | rfl | (simp; done) | (simp [*]; done), by repeat (first | exact Drawn0.refl _ | apply Drawn0.step)⟩
  · rw [if_neg c2] at H
    have c2b0 : decide (a0 < 0) = false := decide_eq_false c2
    clear c2
    by_cases c3 : a0 > 20
    · rw [if_pos c3] at H
      have c3b0 : decide (20 < a0) = true := decide_eq_true c3
      clear c3
      simp only [Option.some.injEq, Prod.mk.injEq] at H
      obtain ⟨rfl, rfl, rfl⟩ := H
      go_enter Try.func10, Try.ntmps10
      go_wp2
      go_ret3
      exact ⟨by first | rfl | (simp; done) | (simp [*]; done), by repeat (first | exact Drawn0.refl _ | apply Drawn0.step)⟩
    · rw [if_neg c3] at H
      have c3b0 : decide (20 < a0) = false := decide_eq_false c3
      clear c3
      simp only [Option.some.injEq, Prod.mk.injEq] at H
      obtain ⟨rfl, rfl, rfl⟩ := H
      go_enter Try.func10, Try.ntmps10
      go_wp2
      go_ret3
      exact ⟨by first | rfl | (simp; done) | (simp [*]; done), by repeat (first | exact Drawn0.refl _ | apply Drawn0.step)⟩

/-! ### abacistlaw10_QuartersCross: function 3 (by hand) -/
/-- What the law asks of its numbers, call by call. -/
def hk_QC (k : Nat) (a b c d u kk dir : Int) : Prop := ∃ y0 y1 y2 y3 p1 p2 q1 q2 r1 r2 s1 s2 m1 m2 wu f n m e : Int, (abacistlaw10_awake.f k = some true) ∧ (hk_crossO a b c d u = some (y0, y1, y2, y3)) ∧ (abacistref02_Add.f a b = some p1) ∧ (abacistref02_Add.f c d = some p2) ∧ (abacistref02_Add.f p1 p2 = some y0) ∧ (abacistref02_Add.f a m1 = some q1) ∧ (abacistref02_Add.f c m2 = some q2) ∧ (abacistref02_Add.f a c = some r1) ∧ (abacistref02_Add.f b d = some r2) ∧ (abacistref02_Add.f a m2 = some s1) ∧ (abacistref02_Add.f c m1 = some s2) ∧ (abacistref02_Sub.f q1 q2 = some y1) ∧ (abacistref02_Sub.f r1 r2 = some y2) ∧ (abacistref02_Sub.f s1 s2 = some y3) ∧ (abacistref02_Mul.f k u b = some m1) ∧ (abacistref02_Mul.f k u d = some m2) ∧ (kern4_Steps.f kk = some (n, m, e)) ∧ (kern4_Unit.f k dir = some (wu, f)) ∧ (((dir = 0 ∨ dir = 1) ∧ f = 0 ∧ abacistref02_Mul.f k wu wu = some 18446744069414584320) ∨ ((dir == 0) = false ∧ (dir == 1) = false ∧ f = 18 ∧ wu = 0)) ∧ (((decide (kk < 0) = true ∨ (decide (kk < 0) = false ∧ decide (20 < kk) = true)) ∧ e = 1 ∧ n = 0 ∧ m = 0) ∨ (decide (kk < 0) = false ∧ decide (20 < kk) = false ∧ e = 0 ∧ wrap64 (wrap64 (2 * n) + m) = kk ∧ decide (0 ≤ m) = true ∧ decide (m ≤ 1) = true))
set_option maxHeartbeats 8000000 in
set_option maxRecDepth 100000 in
theorem abacistlaw10_QuartersCross.calls (k : Nat) (a b c d u kk dir : Int) (w : World) (h : hk_QC k a b c d u kk dir) :
    Calls Try.prog 3 #[.int .u64 a, .int .u64 b, .int .u64 c, .int .u64 d, .int .u64 u, .int .i64 kk, .int .i64 dir] w fun e w' => e = .returned (.bool true) ∧ Below w.heap.size w w' := by
  obtain ⟨y0, y1, y2, y3, p1, p2, q1, q2, r1, r2, s1, s2, m1, m2, wu, f, n, m, e, hAW, hCR, hP1, hP2, hP3, hQ1, hQ2, hR1, hR2, hS1, hS2, hQ3, hR3, hS3, hM1, hM2, hST, hUN, hD, hK⟩ := h
  have AW := Aside0.mk hAW
  have CR := Aside0.mk hCR
  have P1 := Aside0.mk hP1
  have P2 := Aside0.mk hP2
  have P3 := Aside0.mk hP3
  have Q1 := Aside0.mk hQ1
  have Q2 := Aside0.mk hQ2
  have R1 := Aside0.mk hR1
  have R2 := Aside0.mk hR2
  have S1 := Aside0.mk hS1
  have S2 := Aside0.mk hS2
  have Q3 := Aside0.mk hQ3
  have R3 := Aside0.mk hR3
  have S3 := Aside0.mk hS3
  have M1 := Aside0.mk hM1
  have M2 := Aside0.mk hM2
  have ST := Aside0.mk hST
  have UN := Aside0.mk hUN
  have HD := Aside0.mk hD
  have HKK := Aside0.mk hK
  clear hAW hCR hP1 hP2 hP3 hQ1 hQ2 hR1 hR2 hS1 hS2 hQ3 hR3 hS3 hM1 hM2 hST hUN hD hK
  have hE : ∀ W, (binOp .neq 24 (.agg #[.int .u64 y0, .int .u64 y1, .int .u64 y2, .int .u64 y3]) (.agg #[.int .u64 y0, .int .u64 y1, .int .u64 y2, .int .u64 y3])).run Try.prog W = .ok (.bool false) W := fun W => hk4_neq W 24 22 y0 y1 y2 y3 Try.underlying24 Try.underlying22 (by kernel_rfl)
  go_enter Try.func3, Try.ntmps3
  go_wp2_with (first | (go_at_call 5; (with_reducible refine (abacistlaw10_awake.calls k true _ AW.out).mono ?_); rintro ee w1 ⟨rfl, hb0⟩; have hb0 := Aside0.mk hb0) | (go_at_call 6; (with_reducible refine (kern4_Cross.callsO a b c d u y0 y1 y2 y3 _ CR.out).mono ?_); rintro ee w2 ⟨rfl, hb1_⟩; have hb1 := Aside0.mk (hb0.out.trans (hb1_.mono hb0.out.size)); clear hb1_ hb0))
  have BK := Aside0.mk (show (w2.alloc (.cells #[.int .u64 y0, .int .u64 y1, .int .u64 y2, .int .u64 y3] 24)).heap[w2.heap.size]? = some (.cells #[.int .u64 y0, .int .u64 y1, .int .u64 y2, .int .u64 y3] 24 (0,0)) from Array.getElem?_push_size)
  have HB := Aside0.mk (hb1.out.alloc hb1.out.size (.cells #[.int .u64 y0, .int .u64 y1, .int .u64 y2, .int .u64 y3] 24))
  have BZ := Aside0.mk (show w2.heap.size < (w2.alloc (.cells #[.int .u64 y0, .int .u64 y1, .int .u64 y2, .int .u64 y3] 24)).heap.size by simp)
  clear hb1
  obtain ⟨bb, hbb⟩ : ∃ b, b = w2.heap.size := ⟨_, rfl⟩
  rw [← hbb] at BK BZ ⊢
  clear hbb
  generalize w2.alloc (.cells #[.int .u64 y0, .int .u64 y1, .int .u64 y2, .int .u64 y3] 24) = W1 at BK HB BZ ⊢
  (with_reducible refine (abacistref02_Add.calls a b p1 _ P1.out).mono ?_)
  rintro e w1 ⟨rfl, hb0_⟩
  have hb_ := hk_drawn_below hb0_
  clear hb0_
  have n0_ := Aside0.mk ((hb_.block _ BZ.out).trans BK.out)
  have n1_ := Aside0.mk (HB.out.trans (hb_.mono HB.out.size))
  have n2_ := Aside0.mk (Nat.lt_of_lt_of_le BZ.out hb_.size)
  clear BK HB BZ hb_
  have BK := n0_
  have HB := n1_
  have BZ := n2_
  clear n0_ n1_ n2_
  rcases HD.out with ⟨hd, rfl, W2⟩ | ⟨hd0, hd1, rfl, rfl⟩ <;> rcases HKK.out with ⟨hk0, rfl, rfl, rfl⟩ | ⟨hk0, hk1, rfl, hk2, hk3, hk4⟩ <;> clear HD HKK
  · have W2 := Aside0.mk W2
    rcases hd with rfl | rfl <;> rcases hk0 with hk0 | ⟨hk0, hk1⟩
    all_goals
      go_wp2_with (first | (go_at_call 7; (first | (with_reducible refine (abacistref02_Add.calls a b p1 _ P1.out).mono ?_) | (with_reducible refine (abacistref02_Add.calls c d p2 _ P2.out).mono ?_) | (with_reducible refine (abacistref02_Add.calls p1 p2 y0 _ P3.out).mono ?_) | (with_reducible refine (abacistref02_Add.calls a m1 q1 _ Q1.out).mono ?_) | (with_reducible refine (abacistref02_Add.calls c m2 q2 _ Q2.out).mono ?_) | (with_reducible refine (abacistref02_Add.calls a c r1 _ R1.out).mono ?_) | (with_reducible refine (abacistref02_Add.calls b d r2 _ R2.out).mono ?_) | (with_reducible refine (abacistref02_Add.calls a m2 s1 _ S1.out).mono ?_) | (with_reducible refine (abacistref02_Add.calls c m1 s2 _ S2.out).mono ?_)); rintro e w1 ⟨rfl, hb0_⟩; have hb_ := hk_drawn_below hb0_; clear hb0_; have n0_ := Aside0.mk ((hb_.block _ BZ.out).trans BK.out); have n1_ := Aside0.mk (HB.out.trans (hb_.mono HB.out.size)); have n2_ := Aside0.mk (Nat.lt_of_lt_of_le BZ.out hb_.size); clear BK HB BZ hb_; have BK := n0_; have HB := n1_; have BZ := n2_; clear n0_ n1_ n2_) | (go_at_call 8; (first | (with_reducible refine (abacistref02_Sub.calls q1 q2 y1 _ Q3.out).mono ?_) | (with_reducible refine (abacistref02_Sub.calls r1 r2 y2 _ R3.out).mono ?_) | (with_reducible refine (abacistref02_Sub.calls s1 s2 y3 _ S3.out).mono ?_)); rintro e w1 ⟨rfl, hb0_⟩; have hb_ := hk_drawn_below hb0_; clear hb0_; have n0_ := Aside0.mk ((hb_.block _ BZ.out).trans BK.out); have n1_ := Aside0.mk (HB.out.trans (hb_.mono HB.out.size)); have n2_ := Aside0.mk (Nat.lt_of_lt_of_le BZ.out hb_.size); clear BK HB BZ hb_; have BK := n0_; have HB := n1_; have BZ := n2_; clear n0_ n1_ n2_) | (go_at_call 9; (first | (with_reducible refine (abacistref02_Mul.calls k u b m1 _ M1.out).mono ?_) | (with_reducible refine (abacistref02_Mul.calls k u d m2 _ M2.out).mono ?_) | (with_reducible refine (abacistref02_Mul.calls k _ _ _ _ W2.out).mono ?_)); rintro e w1 ⟨rfl, hb0_⟩; have hb_ := hk_drawn_below hb0_; clear hb0_; have n0_ := Aside0.mk ((hb_.block _ BZ.out).trans BK.out); have n1_ := Aside0.mk (HB.out.trans (hb_.mono HB.out.size)); have n2_ := Aside0.mk (Nat.lt_of_lt_of_le BZ.out hb_.size); clear BK HB BZ hb_; have BK := n0_; have HB := n1_; have BZ := n2_; clear n0_ n1_ n2_) | (go_at_call 10; (with_reducible refine (kern4_Steps.calls kk _ _ _ _ ST.out).mono ?_); rintro ee w1 ⟨rfl, hb0_⟩; have hb_ := hk_drawn_below hb0_; clear hb0_; have n0_ := Aside0.mk ((hb_.block _ BZ.out).trans BK.out); have n1_ := Aside0.mk (HB.out.trans (hb_.mono HB.out.size)); have n2_ := Aside0.mk (Nat.lt_of_lt_of_le BZ.out hb_.size); clear BK HB BZ hb_; have BK := n0_; have HB := n1_; have BZ := n2_; clear n0_ n1_ n2_) | (go_at_call 11; (with_reducible refine (kern4_Unit.calls k _ _ _ _ UN.out).mono ?_); rintro ee w1 ⟨rfl, hb_⟩; have n0_ := Aside0.mk ((hb_.block _ BZ.out).trans BK.out); have n1_ := Aside0.mk (HB.out.trans (hb_.mono HB.out.size)); have n2_ := Aside0.mk (Nat.lt_of_lt_of_le BZ.out hb_.size); clear BK HB BZ hb_; have BK := n0_; have HB := n1_; have BZ := n2_; clear n0_ n1_ n2_) | (with_reducible refine wpList_load_row rfl 24 (.tmp 15) rfl bb rfl 24 _ (0, 0) _ BK.out Try.underlying24 rfl (by kernel_rfl) ?_))
      go_ret
      exact ⟨rfl, HB.out⟩
  · have W2 := Aside0.mk W2
    rcases hd with rfl | rfl
    all_goals
      go_wp2_with (first | (go_at_call 7; (first | (with_reducible refine (abacistref02_Add.calls a b p1 _ P1.out).mono ?_) | (with_reducible refine (abacistref02_Add.calls c d p2 _ P2.out).mono ?_) | (with_reducible refine (abacistref02_Add.calls p1 p2 y0 _ P3.out).mono ?_) | (with_reducible refine (abacistref02_Add.calls a m1 q1 _ Q1.out).mono ?_) | (with_reducible refine (abacistref02_Add.calls c m2 q2 _ Q2.out).mono ?_) | (with_reducible refine (abacistref02_Add.calls a c r1 _ R1.out).mono ?_) | (with_reducible refine (abacistref02_Add.calls b d r2 _ R2.out).mono ?_) | (with_reducible refine (abacistref02_Add.calls a m2 s1 _ S1.out).mono ?_) | (with_reducible refine (abacistref02_Add.calls c m1 s2 _ S2.out).mono ?_)); rintro e w1 ⟨rfl, hb0_⟩; have hb_ := hk_drawn_below hb0_; clear hb0_; have n0_ := Aside0.mk ((hb_.block _ BZ.out).trans BK.out); have n1_ := Aside0.mk (HB.out.trans (hb_.mono HB.out.size)); have n2_ := Aside0.mk (Nat.lt_of_lt_of_le BZ.out hb_.size); clear BK HB BZ hb_; have BK := n0_; have HB := n1_; have BZ := n2_; clear n0_ n1_ n2_) | (go_at_call 8; (first | (with_reducible refine (abacistref02_Sub.calls q1 q2 y1 _ Q3.out).mono ?_) | (with_reducible refine (abacistref02_Sub.calls r1 r2 y2 _ R3.out).mono ?_) | (with_reducible refine (abacistref02_Sub.calls s1 s2 y3 _ S3.out).mono ?_)); rintro e w1 ⟨rfl, hb0_⟩; have hb_ := hk_drawn_below hb0_; clear hb0_; have n0_ := Aside0.mk ((hb_.block _ BZ.out).trans BK.out); have n1_ := Aside0.mk (HB.out.trans (hb_.mono HB.out.size)); have n2_ := Aside0.mk (Nat.lt_of_lt_of_le BZ.out hb_.size); clear BK HB BZ hb_; have BK := n0_; have HB := n1_; have BZ := n2_; clear n0_ n1_ n2_) | (go_at_call 9; (first | (with_reducible refine (abacistref02_Mul.calls k u b m1 _ M1.out).mono ?_) | (with_reducible refine (abacistref02_Mul.calls k u d m2 _ M2.out).mono ?_) | (with_reducible refine (abacistref02_Mul.calls k _ _ _ _ W2.out).mono ?_)); rintro e w1 ⟨rfl, hb0_⟩; have hb_ := hk_drawn_below hb0_; clear hb0_; have n0_ := Aside0.mk ((hb_.block _ BZ.out).trans BK.out); have n1_ := Aside0.mk (HB.out.trans (hb_.mono HB.out.size)); have n2_ := Aside0.mk (Nat.lt_of_lt_of_le BZ.out hb_.size); clear BK HB BZ hb_; have BK := n0_; have HB := n1_; have BZ := n2_; clear n0_ n1_ n2_) | (go_at_call 10; (with_reducible refine (kern4_Steps.calls kk _ _ _ _ ST.out).mono ?_); rintro ee w1 ⟨rfl, hb0_⟩; have hb_ := hk_drawn_below hb0_; clear hb0_; have n0_ := Aside0.mk ((hb_.block _ BZ.out).trans BK.out); have n1_ := Aside0.mk (HB.out.trans (hb_.mono HB.out.size)); have n2_ := Aside0.mk (Nat.lt_of_lt_of_le BZ.out hb_.size); clear BK HB BZ hb_; have BK := n0_; have HB := n1_; have BZ := n2_; clear n0_ n1_ n2_) | (go_at_call 11; (with_reducible refine (kern4_Unit.calls k _ _ _ _ UN.out).mono ?_); rintro ee w1 ⟨rfl, hb_⟩; have n0_ := Aside0.mk ((hb_.block _ BZ.out).trans BK.out); have n1_ := Aside0.mk (HB.out.trans (hb_.mono HB.out.size)); have n2_ := Aside0.mk (Nat.lt_of_lt_of_le BZ.out hb_.size); clear BK HB BZ hb_; have BK := n0_; have HB := n1_; have BZ := n2_; clear n0_ n1_ n2_) | (with_reducible refine wpList_load_row rfl 24 (.tmp 15) rfl bb rfl 24 _ (0, 0) _ BK.out Try.underlying24 rfl (by kernel_rfl) ?_))
      go_ret
      exact ⟨rfl, HB.out⟩
  · have hd2 : (dir != 0) = true := by unfold bne; rw [hd0]; rfl
    have hd3 : (dir != 1) = true := by unfold bne; rw [hd1]; rfl
    rcases hk0 with hk0 | ⟨hk0, hk1⟩
    all_goals
      go_wp2_with (first | (go_at_call 7; (first | (with_reducible refine (abacistref02_Add.calls a b p1 _ P1.out).mono ?_) | (with_reducible refine (abacistref02_Add.calls c d p2 _ P2.out).mono ?_) | (with_reducible refine (abacistref02_Add.calls p1 p2 y0 _ P3.out).mono ?_) | (with_reducible refine (abacistref02_Add.calls a m1 q1 _ Q1.out).mono ?_) | (with_reducible refine (abacistref02_Add.calls c m2 q2 _ Q2.out).mono ?_) | (with_reducible refine (abacistref02_Add.calls a c r1 _ R1.out).mono ?_) | (with_reducible refine (abacistref02_Add.calls b d r2 _ R2.out).mono ?_) | (with_reducible refine (abacistref02_Add.calls a m2 s1 _ S1.out).mono ?_) | (with_reducible refine (abacistref02_Add.calls c m1 s2 _ S2.out).mono ?_)); rintro e w1 ⟨rfl, hb0_⟩; have hb_ := hk_drawn_below hb0_; clear hb0_; have n0_ := Aside0.mk ((hb_.block _ BZ.out).trans BK.out); have n1_ := Aside0.mk (HB.out.trans (hb_.mono HB.out.size)); have n2_ := Aside0.mk (Nat.lt_of_lt_of_le BZ.out hb_.size); clear BK HB BZ hb_; have BK := n0_; have HB := n1_; have BZ := n2_; clear n0_ n1_ n2_) | (go_at_call 8; (first | (with_reducible refine (abacistref02_Sub.calls q1 q2 y1 _ Q3.out).mono ?_) | (with_reducible refine (abacistref02_Sub.calls r1 r2 y2 _ R3.out).mono ?_) | (with_reducible refine (abacistref02_Sub.calls s1 s2 y3 _ S3.out).mono ?_)); rintro e w1 ⟨rfl, hb0_⟩; have hb_ := hk_drawn_below hb0_; clear hb0_; have n0_ := Aside0.mk ((hb_.block _ BZ.out).trans BK.out); have n1_ := Aside0.mk (HB.out.trans (hb_.mono HB.out.size)); have n2_ := Aside0.mk (Nat.lt_of_lt_of_le BZ.out hb_.size); clear BK HB BZ hb_; have BK := n0_; have HB := n1_; have BZ := n2_; clear n0_ n1_ n2_) | (go_at_call 9; (first | (with_reducible refine (abacistref02_Mul.calls k u b m1 _ M1.out).mono ?_) | (with_reducible refine (abacistref02_Mul.calls k u d m2 _ M2.out).mono ?_) | (with_reducible refine (abacistref02_Mul.calls k _ _ _ _ W2.out).mono ?_)); rintro e w1 ⟨rfl, hb0_⟩; have hb_ := hk_drawn_below hb0_; clear hb0_; have n0_ := Aside0.mk ((hb_.block _ BZ.out).trans BK.out); have n1_ := Aside0.mk (HB.out.trans (hb_.mono HB.out.size)); have n2_ := Aside0.mk (Nat.lt_of_lt_of_le BZ.out hb_.size); clear BK HB BZ hb_; have BK := n0_; have HB := n1_; have BZ := n2_; clear n0_ n1_ n2_) | (go_at_call 10; (with_reducible refine (kern4_Steps.calls kk _ _ _ _ ST.out).mono ?_); rintro ee w1 ⟨rfl, hb0_⟩; have hb_ := hk_drawn_below hb0_; clear hb0_; have n0_ := Aside0.mk ((hb_.block _ BZ.out).trans BK.out); have n1_ := Aside0.mk (HB.out.trans (hb_.mono HB.out.size)); have n2_ := Aside0.mk (Nat.lt_of_lt_of_le BZ.out hb_.size); clear BK HB BZ hb_; have BK := n0_; have HB := n1_; have BZ := n2_; clear n0_ n1_ n2_) | (go_at_call 11; (with_reducible refine (kern4_Unit.calls k _ _ _ _ UN.out).mono ?_); rintro ee w1 ⟨rfl, hb_⟩; have n0_ := Aside0.mk ((hb_.block _ BZ.out).trans BK.out); have n1_ := Aside0.mk (HB.out.trans (hb_.mono HB.out.size)); have n2_ := Aside0.mk (Nat.lt_of_lt_of_le BZ.out hb_.size); clear BK HB BZ hb_; have BK := n0_; have HB := n1_; have BZ := n2_; clear n0_ n1_ n2_) | (with_reducible refine wpList_load_row rfl 24 (.tmp 15) rfl bb rfl 24 _ (0, 0) _ BK.out Try.underlying24 rfl (by kernel_rfl) ?_))
      go_ret
      exact ⟨rfl, HB.out⟩
  · have hd2 : (dir != 0) = true := by unfold bne; rw [hd0]; rfl
    have hd3 : (dir != 1) = true := by unfold bne; rw [hd1]; rfl
    go_wp2_with (first | (go_at_call 7; (first | (with_reducible refine (abacistref02_Add.calls a b p1 _ P1.out).mono ?_) | (with_reducible refine (abacistref02_Add.calls c d p2 _ P2.out).mono ?_) | (with_reducible refine (abacistref02_Add.calls p1 p2 y0 _ P3.out).mono ?_) | (with_reducible refine (abacistref02_Add.calls a m1 q1 _ Q1.out).mono ?_) | (with_reducible refine (abacistref02_Add.calls c m2 q2 _ Q2.out).mono ?_) | (with_reducible refine (abacistref02_Add.calls a c r1 _ R1.out).mono ?_) | (with_reducible refine (abacistref02_Add.calls b d r2 _ R2.out).mono ?_) | (with_reducible refine (abacistref02_Add.calls a m2 s1 _ S1.out).mono ?_) | (with_reducible refine (abacistref02_Add.calls c m1 s2 _ S2.out).mono ?_)); rintro e w1 ⟨rfl, hb0_⟩; have hb_ := hk_drawn_below hb0_; clear hb0_; have n0_ := Aside0.mk ((hb_.block _ BZ.out).trans BK.out); have n1_ := Aside0.mk (HB.out.trans (hb_.mono HB.out.size)); have n2_ := Aside0.mk (Nat.lt_of_lt_of_le BZ.out hb_.size); clear BK HB BZ hb_; have BK := n0_; have HB := n1_; have BZ := n2_; clear n0_ n1_ n2_) | (go_at_call 8; (first | (with_reducible refine (abacistref02_Sub.calls q1 q2 y1 _ Q3.out).mono ?_) | (with_reducible refine (abacistref02_Sub.calls r1 r2 y2 _ R3.out).mono ?_) | (with_reducible refine (abacistref02_Sub.calls s1 s2 y3 _ S3.out).mono ?_)); rintro e w1 ⟨rfl, hb0_⟩; have hb_ := hk_drawn_below hb0_; clear hb0_; have n0_ := Aside0.mk ((hb_.block _ BZ.out).trans BK.out); have n1_ := Aside0.mk (HB.out.trans (hb_.mono HB.out.size)); have n2_ := Aside0.mk (Nat.lt_of_lt_of_le BZ.out hb_.size); clear BK HB BZ hb_; have BK := n0_; have HB := n1_; have BZ := n2_; clear n0_ n1_ n2_) | (go_at_call 9; (first | (with_reducible refine (abacistref02_Mul.calls k u b m1 _ M1.out).mono ?_) | (with_reducible refine (abacistref02_Mul.calls k u d m2 _ M2.out).mono ?_) | (with_reducible refine (abacistref02_Mul.calls k _ _ _ _ W2.out).mono ?_)); rintro e w1 ⟨rfl, hb0_⟩; have hb_ := hk_drawn_below hb0_; clear hb0_; have n0_ := Aside0.mk ((hb_.block _ BZ.out).trans BK.out); have n1_ := Aside0.mk (HB.out.trans (hb_.mono HB.out.size)); have n2_ := Aside0.mk (Nat.lt_of_lt_of_le BZ.out hb_.size); clear BK HB BZ hb_; have BK := n0_; have HB := n1_; have BZ := n2_; clear n0_ n1_ n2_) | (go_at_call 10; (with_reducible refine (kern4_Steps.calls kk _ _ _ _ ST.out).mono ?_); rintro ee w1 ⟨rfl, hb0_⟩; have hb_ := hk_drawn_below hb0_; clear hb0_; have n0_ := Aside0.mk ((hb_.block _ BZ.out).trans BK.out); have n1_ := Aside0.mk (HB.out.trans (hb_.mono HB.out.size)); have n2_ := Aside0.mk (Nat.lt_of_lt_of_le BZ.out hb_.size); clear BK HB BZ hb_; have BK := n0_; have HB := n1_; have BZ := n2_; clear n0_ n1_ n2_) | (go_at_call 11; (with_reducible refine (kern4_Unit.calls k _ _ _ _ UN.out).mono ?_); rintro ee w1 ⟨rfl, hb_⟩; have n0_ := Aside0.mk ((hb_.block _ BZ.out).trans BK.out); have n1_ := Aside0.mk (HB.out.trans (hb_.mono HB.out.size)); have n2_ := Aside0.mk (Nat.lt_of_lt_of_le BZ.out hb_.size); clear BK HB BZ hb_; have BK := n0_; have HB := n1_; have BZ := n2_; clear n0_ n1_ n2_) | (with_reducible refine wpList_load_row rfl 24 (.tmp 15) rfl bb rfl 24 _ (0, 0) _ BK.out Try.underlying24 rfl (by kernel_rfl) ?_))
    go_ret
    exact ⟨rfl, HB.out⟩

/-- THE ONE PURE STATEMENT of abacistlaw10_QuartersCross. -/
def abacistlaw10_QuartersCross.Pure : Prop := ∀ (a0 : Int) (a1 : Int) (a2 : Int) (a3 : Int) (a4 : Int) (a5 : Int) (a6 : Int), (Lit.int .u64 a0).wf = true → (Lit.int .u64 a1).wf = true → (Lit.int .u64 a2).wf = true → (Lit.int .u64 a3).wf = true → (Lit.int .u64 a4).wf = true → (Lit.int .i64 a5).wf = true → (Lit.int .i64 a6).wf = true → ∃ k, hk_QC k a0 a1 a2 a3 a4 a5 a6
theorem abacistlaw10_QuartersCross.walk (P : abacistlaw10_QuartersCross.Pure) (a0 : Int) (a1 : Int) (a2 : Int) (a3 : Int) (a4 : Int) (a5 : Int) (a6 : Int) (w : World) (w0 : (Lit.int .u64 a0).wf = true) (w1 : (Lit.int .u64 a1).wf = true) (w2 : (Lit.int .u64 a2).wf = true) (w3 : (Lit.int .u64 a3).wf = true) (w4 : (Lit.int .u64 a4).wf = true) (w5 : (Lit.int .i64 a5).wf = true) (w6 : (Lit.int .i64 a6).wf = true) :
    Calls Try.prog 3 #[.int .u64 a0, .int .u64 a1, .int .u64 a2, .int .u64 a3, .int .u64 a4, .int .i64 a5, .int .i64 a6] w fun e w' => e = .returned (.bool true) ∧ Below w.heap.size w w' := by
  obtain ⟨k, h⟩ := P a0 a1 a2 a3 a4 a5 a6 w0 w1 w2 w3 w4 w5 w6
  exact abacistlaw10_QuartersCross.calls k a0 a1 a2 a3 a4 a5 a6 w h

end Go.Proofs.Ytggmpdmlbjllhaa.PQuartersCross
