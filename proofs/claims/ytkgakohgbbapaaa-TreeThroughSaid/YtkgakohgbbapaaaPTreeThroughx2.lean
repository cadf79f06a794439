-- Written for this claim by wip/gen/mk.sh, this session's own driver over the kit's print
import Derived.Test.YtkgakohgbbapaaaPTreeThroughx0
import Derived.Test.YtkgakohgbbapaaaPTreeThroughx1
namespace Go.Proofs.Ytkgakohgbbapaaa.PTreeThrough
open Go.RowKit Go.Proofs.YtkgakohgbbapaaaW.PrintWords Go.Proofs.YtkgakohgbbapaaaW.PrintLast Go.Proofs.YtkgakohgbbapaaaW.PrintMore
attribute [local go_sem] max2_int min2_int max_two min_two max_three min_three max_four min_four   -- for this text's walks alone
set_option linter.unusedVariables false
set_option linter.unusedSimpArgs false

/-! ### gold_Add: function 29 -/
def gold_Add.f (a0 : Int) (a1 : Int) : Option (Int) := (gold_Of.f a0).bind fun t135 => ((gold_Of.f a1).bind fun t136 => ((wide_Add.f 0 t135 0 t136).bind fun bt137 => ((gold_Reduce.f bt137.1 bt137.2.1).bind fun t141 => (some t141))))
set_option maxHeartbeats 8000000 in
set_option maxRecDepth 100000 in
theorem gold_Add.calls (a0 : Int) (a1 : Int) (r : Int) (w : World) (h : gold_Add.f a0 a1 = some r) :
    Calls Try.prog 29 #[.int .u64 a0, .int .u64 a1] w fun e w' => e = .returned (.int .u64 r) ∧ Below w.heap.size w w' := by
  have hu55 := Try.underlying55
  have HB := Aside0.mk (Below.refl w.heap.size w)
  have H : ((gold_Of.f a0).bind fun t135 => ((gold_Of.f a1).bind fun t136 => ((wide_Add.f 0 t135 0 t136).bind fun bt137 => ((gold_Reduce.f bt137.1 bt137.2.1).bind fun t141 => (some t141))))) = some r := h
  clear h
  replace H := Option.bind_eq_some_iff.mp H
  obtain ⟨t135, A30, H⟩ := H
  replace H : ((gold_Of.f a1).bind fun t136 => ((wide_Add.f 0 t135 0 t136).bind fun bt137 => ((gold_Reduce.f bt137.1 bt137.2.1).bind fun t141 => (some t141)))) = some r := H
  have A3 := Aside0.mk A30
  clear A30
  replace H := Option.bind_eq_some_iff.mp H
  obtain ⟨t136, A40, H⟩ := H
  replace H : ((wide_Add.f 0 t135 0 t136).bind fun bt137 => ((gold_Reduce.f bt137.1 bt137.2.1).bind fun t141 => (some t141))) = some r := H
  have A4 := Aside0.mk A40
  clear A40
  replace H := Option.bind_eq_some_iff.mp H
  obtain ⟨⟨t137, t138, t139⟩, A50, H⟩ := H
  replace H : ((gold_Reduce.f t137 t138).bind fun t141 => (some t141)) = some r := H
  have A5 := Aside0.mk A50
  clear A50
  replace H := Option.bind_eq_some_iff.mp H
  obtain ⟨t141, A60, H⟩ := H
  replace H : (some t141) = some r := H
  have A6 := Aside0.mk A60
  clear A60
  obtain rfl := Option.some.inj H
  go_enter Try.func29, Try.ntmps29
  go_wp2_with (first | ((with_reducible refine gate_callee (f := 23) rfl ?_); refine goesL_ (some 9) rfl rfl Try.func23 (by kernel_rfl) rfl #[.int .u64 a0] rfl (by (try simp only [List.map_toArray, List.map_cons, List.map_nil]); first | done | rfl | (simp only [List.length_drop, List.length_take]; rfl)) ?_; (with_reducible refine (gold_Of.calls a0 t135 _ A3.out).mono ?_); rintro e w' ⟨rfl, ⟨nd, rfl⟩⟩; refine ⟨_, rfl, ?_⟩) | ((with_reducible refine gate_callee (f := 23) rfl ?_); refine goesL_ (some 12) rfl rfl Try.func23 (by kernel_rfl) rfl #[.int .u64 a1] rfl (by (try simp only [List.map_toArray, List.map_cons, List.map_nil]); first | done | rfl | (simp only [List.length_drop, List.length_take]; rfl)) ?_; (with_reducible refine (gold_Of.calls a1 t136 _ A4.out).mono ?_); rintro e w' ⟨rfl, ⟨nd, rfl⟩⟩; refine ⟨_, rfl, ?_⟩) | ((with_reducible refine gate_callee (f := 39) rfl ?_); refine goesL_ (some 14) rfl rfl Try.func39 (by kernel_rfl) rfl #[.agg #[.int .u64 0, .int .u64 t135], .agg #[.int .u64 0, .int .u64 t136]] rfl (by (try simp only [List.map_toArray, List.map_cons, List.map_nil]); first | done | rfl | (simp only [List.length_drop, List.length_take]; rfl)) ?_; (with_reducible refine (wide_Add.calls 0 t135 0 t136 t137 t138 t139 _ A5.out).mono ?_); rintro e w7 ⟨rfl, hb⟩; refine ⟨_, rfl, ?_⟩; have n0_ := Aside0.mk (below_step (by repeat (first | (with_reducible first | exact HB.out | apply below_alloc | apply pw_below_drewN | apply below_drew1) | exact HB.out)) hb); clear HB; have HB := n0_; clear n0_; (try clear hb); (try clear hb2); (try clear hk); (try clear hi)) | ((with_reducible refine gate_dst (N := 5) rfl ?_); refine box_event ?hg (N := 5) ?hd (cs := #[.int .u64 0, .int .u64 0]) (t := 55) ?hr ?_; (case hd => rfl); (case hg => rfl); (case hr => first | (go_simp; done) | (go_simp; rfl)); intro gb140 hg w8 hbox hb; have n0_ := Aside0.mk (below_step (by repeat (first | (with_reducible first | exact HB.out | apply below_alloc | apply pw_below_drewN | apply below_drew1) | exact HB.out)) hb); have n1_ := Aside0.mk (hbox); have n2_ := Aside0.mk ((by rw [hg]; exact (below_size (by repeat (first | (with_reducible first | exact HB.out | apply below_alloc | apply pw_below_drewN | apply below_drew1) | exact HB.out))) : w.heap.size ≤ gb140)); have n3_ := Aside0.mk ((by rw [hg]; exact (below_size (by repeat (first | (with_reducible first | exact HB.out | apply below_alloc | apply pw_below_drewN | apply below_drew1) | exact HB.out))) : w.heap.size ≤ gb140)); clear HB; have HB := n0_; have BK140 := n1_; have GW140 := n2_; have GE140 := n3_; clear n0_ n1_ n2_ n3_; clear hb hbox hg; have hcz9_0 : w8.cell? ⟨gb140, 0, none⟩ = some (.int .u64 0) := (blk_cell BK140.out 0).trans rfl; have hcz9_1 : w8.cell? ⟨gb140, 1, none⟩ = some (.int .u64 0) := (blk_cell BK140.out 1).trans rfl; have hfz9_0 := blk_frozen BK140.out 0; have hfz9_1 := blk_frozen BK140.out 1) | ((with_reducible refine gate_callee (f := 37) rfl ?_); refine goesL_ (some 18) rfl rfl Try.func37 (by kernel_rfl) rfl #[.agg #[.int .u64 t137, .int .u64 t138]] rfl (by (try simp only [List.map_toArray, List.map_cons, List.map_nil]); first | done | rfl | (simp only [List.length_drop, List.length_take]; rfl)) ?_; (with_reducible refine (gold_Reduce.calls t137 t138 t141 _ A6.out).mono ?_); rintro e w10 ⟨rfl, hb⟩; refine ⟨_, rfl, ?_⟩; have n0_ := Aside0.mk (blk_below (g := gb140) (o := .cells #[.int .u64 t137, .int .u64 t138] 55 (0, 0)) (by (with_reducible repeat (first | refine blk_drewN ?_ _ | refine blk_drew ?_ | refine blk_alloc ?_ _)); refine blk_put (cs := #[.int .u64 t137, .int .u64 0]) ?_ 1 _ rfl; (with_reducible repeat (first | refine blk_drewN ?_ _ | refine blk_drew ?_ | refine blk_alloc ?_ _)); refine blk_put (cs := #[.int .u64 0, .int .u64 0]) ?_ 0 _ rfl; (with_reducible repeat (first | refine blk_drewN ?_ _ | refine blk_drew ?_ | refine blk_alloc ?_ _)); exact BK140.out) hb); have n1_ := Aside0.mk (below_step (by repeat (first | (with_reducible first | exact HB.out | apply below_alloc | apply pw_below_drewN | apply below_drew1 | refine below_set ?_ GE140.out) | exact HB.out)) hb); clear BK140; clear HB; have BK140 := n0_; have HB := n1_; clear n0_ n1_; (try clear hb); (try clear hb2); (try clear hk); (try clear hi)))
  go_ret
  exact ⟨by first | rfl | (simp [errW_none, errW_some] <;> rfl) | (simp [*, errW_none, errW_some] <;> rfl), by repeat (first | (with_reducible first | exact HB.out | apply below_alloc | apply pw_below_drewN | apply below_drew1 | refine below_set ?_ GE140.out) | exact HB.out)⟩

/-! ### gold_Sub: function 86 -/
def gold_Sub.f (a0 : Int) (a1 : Int) : Option (Int) := (gold_Neg.f a1).bind fun t142 => ((gold_Add.f a0 t142).bind fun t143 => (some t143))
set_option maxHeartbeats 8000000 in
set_option maxRecDepth 100000 in
theorem gold_Sub.calls (a0 : Int) (a1 : Int) (r : Int) (w : World) (h : gold_Sub.f a0 a1 = some r) :
    Calls Try.prog 86 #[.int .u64 a0, .int .u64 a1] w fun e w' => e = .returned (.int .u64 r) ∧ Below w.heap.size w w' := by
  have HB := Aside0.mk (Below.refl w.heap.size w)
  have H : ((gold_Neg.f a1).bind fun t142 => ((gold_Add.f a0 t142).bind fun t143 => (some t143))) = some r := h
  clear h
  replace H := Option.bind_eq_some_iff.mp H
  obtain ⟨t142, A30, H⟩ := H
  replace H : ((gold_Add.f a0 t142).bind fun t143 => (some t143)) = some r := H
  have A3 := Aside0.mk A30
  clear A30
  replace H := Option.bind_eq_some_iff.mp H
  obtain ⟨t143, A40, H⟩ := H
  replace H : (some t143) = some r := H
  have A4 := Aside0.mk A40
  clear A40
  obtain rfl := Option.some.inj H
  go_enter Try.func86, Try.ntmps86
  go_wp2_with (first | ((with_reducible refine gate_callee (f := 24) rfl ?_); refine goesL_ (some 7) rfl rfl Try.func24 (by kernel_rfl) rfl #[.int .u64 a1] rfl (by (try simp only [List.map_toArray, List.map_cons, List.map_nil]); first | done | rfl | (simp only [List.length_drop, List.length_take]; rfl)) ?_; (with_reducible refine (gold_Neg.calls a1 t142 _ A3.out).mono ?_); rintro e w' ⟨rfl, ⟨nd, rfl⟩⟩; refine ⟨_, rfl, ?_⟩) | ((with_reducible refine gate_callee (f := 29) rfl ?_); refine goesL_ (some 8) rfl rfl Try.func29 (by kernel_rfl) rfl #[.int .u64 a0, .int .u64 t142] rfl (by (try simp only [List.map_toArray, List.map_cons, List.map_nil]); first | done | rfl | (simp only [List.length_drop, List.length_take]; rfl)) ?_; (with_reducible refine (gold_Add.calls a0 t142 t143 _ A4.out).mono ?_); rintro e w5 ⟨rfl, hb⟩; refine ⟨_, rfl, ?_⟩; have n0_ := Aside0.mk (below_step (by repeat (first | (with_reducible first | exact HB.out | apply below_alloc | apply pw_below_drewN | apply below_drew1) | exact HB.out)) hb); clear HB; have HB := n0_; clear n0_; (try clear hb); (try clear hb2); (try clear hk); (try clear hi)))
  go_ret
  exact ⟨by first | rfl | (simp [errW_none, errW_some] <;> rfl) | (simp [*, errW_none, errW_some] <;> rfl), by repeat (first | (with_reducible first | exact HB.out | apply below_alloc | apply pw_below_drewN | apply below_drew1) | exact HB.out)⟩

theorem hk_wn {z : Nat} (h : z ≤ 1048576) : IntKind.i64.wrap (z : Int) = (z : Int) := by rw [i64_w]; unfold wrap64; omega
/-- What stands while a pass goes on: the pass, the source's row, and blocks that nobody writes. -/
structure hk_QE (w0 w : World) (gp gs gd : Nat) (P : Option Addr) (np cp cS cD : Nat) (u : Int) (src : List Int) (ex : List (Nat × Obj)) (W : World) : Prop where
  hB : Below w0.heap.size w0 W
  hK : Kept w W (fun j => j = gp ∨ j = gd)
  hX : W.heap[gp]? = some (.cells #[.slice P np cp, .int .u64 u, .slice (some ⟨gs, 0, none⟩) src.length cS, .slice (some ⟨gd, 0, none⟩) src.length cD] 98 (0, 0))
  hS : Kd.R (Kd.int .u64) 29 W w0.heap.size (fun j => j = gs) (.slice (some ⟨gs, 0, none⟩) src.length cS) src
  hE : ∀ p, p ∈ ex → W.heap[p.1]? = some p.2 ∧ p.1 ≠ gd
  ne : w0.heap.size ≤ gd ∧ gp ≠ gd ∧ gs ≠ gd
section
variable {w0 w : World} {gp gs gd : Nat} {P : Option Addr} {np cp cS cD : Nat} {u : Int} {src : List Int} {ex : List (Nat × Obj)} {W W' : World}
theorem hk_QE.below (h : hk_QE w0 w gp gs gd P np cp cS cD u src ex W) (hb : Below W.heap.size W W') : hk_QE w0 w gp gs gd P np cp cS cD u src ex W' :=
  ⟨h.hB.trans (hb.mono h.hB.size), h.hK.below hb, (hb.block _ (blk_lt h.hX)).trans h.hX, Kd.R_below h.hS hb, fun p hp => ⟨(hb.block _ (blk_lt (h.hE p hp).1)).trans (h.hE p hp).1, (h.hE p hp).2⟩, h.ne⟩
theorem hk_QE.set (h : hk_QE w0 w gp gs gd P np cp cS cD u src ex W) (j : Nat) (v : Value) : hk_QE w0 w gp gs gd P np cp cS cD u src ex (W.setCell ⟨gd, j, none⟩ v) := by
  obtain ⟨n0, n1, n2⟩ := h.ne
  refine ⟨below_set h.hB n0, h.hK.setCell (p := ⟨gd, j, none⟩) (.inl (.inr rfl)) v, ?_, Kd.R_far h.hS (p := ⟨gd, j, none⟩) (fun k hk => by subst hk; exact n2) v, fun p hp => ⟨?_, (h.hE p hp).2⟩, h.ne⟩
  · exact (Below.heap_setCell W ⟨gd, j, none⟩ v gp n1).trans h.hX
  · exact (Below.heap_setCell W ⟨gd, j, none⟩ v p.1 (h.hE p hp).2).trans (h.hE p hp).1
theorem hk_QE.drewN (h : hk_QE w0 w gp gs gd P np cp cS cD u src ex W) (m : Nat) : hk_QE w0 w gp gs gd P np cp cS cD u src ex (W.drewN m) := h.below (pw_below_drewN (Below.refl _ _) m)
theorem hk_QE.add (h : hk_QE w0 w gp gs gd P np cp cS cD u src ex W) {b : Nat} {o : Obj} (hb : W.heap[b]? = some o) (hne : b ≠ gd) : hk_QE w0 w gp gs gd P np cp cS cD u src ((b, o) :: ex) W :=
  ⟨h.hB, h.hK, h.hX, h.hS, fun p hp => by
    rcases List.mem_cons.1 hp with rfl | hp
    · exact ⟨hb, hne⟩
    · exact h.hE p hp, h.ne⟩
theorem hk_QE.sub (h : hk_QE w0 w gp gs gd P np cp cS cD u src ex W) {ex' : List (Nat × Obj)} (hs : ∀ p, p ∈ ex' → p ∈ ex) : hk_QE w0 w gp gs gd P np cp cS cD u src ex' W :=
  ⟨h.hB, h.hK, h.hX, h.hS, fun p hp => h.hE p (hs p hp), h.ne⟩
theorem hk_QE.alloc (h : hk_QE w0 w gp gs gd P np cp cS cD u src ex W) (hd : gd < W.heap.size) (cs : Array Value) (t : TypeId) : hk_QE w0 w gp gs gd P np cp cS cD u src ((W.heap.size, .cells cs t (0, 0)) :: ex) (W.alloc (.cells cs t)) :=
  (h.below (below_alloc (Below.refl _ _) _)).add (show (W.heap.push _)[W.heap.size]? = _ from Array.getElem?_push_size) (by omega)
theorem hk_QE.cell (h : hk_QE w0 w gp gs gd P np cp cS cD u src ex W) {b : Nat} {cs : Array Value} {t : TypeId} (hm : (b, Obj.cells cs t (0, 0)) ∈ ex) (i : Nat) (v : Value) (hv : cs[i]? = some v) : W.cell? ⟨b, i, none⟩ = some v := hk_blk_cell (h.hE _ hm).1 i v hv
end
theorem hk_QE.swap {w0 w : World} {gp gs gd : Nat} {P : Option Addr} {np cp cS cD : Nat} {u : Int} {src x : List Int} {ex : List (Nat × Obj)} {W : World} (h : hk_QE w0 w gp gs gd P np cp cS cD u src ex W) (hgp : w0.heap.size ≤ gp)
    (hD : Kd.R (Kd.int .u64) 29 W w0.heap.size (fun j => j = gd) (.slice (some ⟨gd, 0, none⟩) src.length cD) x) :
    Below w0.heap.size w0 ((W.setCell ⟨gp, 2, none⟩ (.slice (some ⟨gd, 0, none⟩) src.length cD)).setCell ⟨gp, 3, none⟩ (.slice (some ⟨gs, 0, none⟩) src.length cS)).drew ∧ Kept w ((W.setCell ⟨gp, 2, none⟩ (.slice (some ⟨gd, 0, none⟩) src.length cD)).setCell ⟨gp, 3, none⟩ (.slice (some ⟨gs, 0, none⟩) src.length cS)).drew (fun j => j = gp ∨ j = gd) ∧
      ((W.setCell ⟨gp, 2, none⟩ (.slice (some ⟨gd, 0, none⟩) src.length cD)).setCell ⟨gp, 3, none⟩ (.slice (some ⟨gs, 0, none⟩) src.length cS)).drew.heap[gp]? = some (.cells #[.slice P np cp, .int .u64 u, .slice (some ⟨gd, 0, none⟩) src.length cD, .slice (some ⟨gs, 0, none⟩) src.length cS] 98 (0, 0)) ∧
      Kd.R (Kd.int .u64) 29 ((W.setCell ⟨gp, 2, none⟩ (.slice (some ⟨gd, 0, none⟩) src.length cD)).setCell ⟨gp, 3, none⟩ (.slice (some ⟨gs, 0, none⟩) src.length cS)).drew w0.heap.size (fun j => j = gd) (.slice (some ⟨gd, 0, none⟩) src.length cD) x := by
  refine ⟨(below_set (below_set h.hB hgp) hgp).drew, ((h.hK.setCell (p := ⟨gp, 2, none⟩) (.inl (.inl rfl)) _).setCell (p := ⟨gp, 3, none⟩) (.inl (.inl rfl)) _).drew, ?_, ?_⟩
  · exact blk_put (blk_put h.hX 2 (.slice (some ⟨gd, 0, none⟩) src.length cD) rfl) 3 (.slice (some ⟨gs, 0, none⟩) src.length cS) rfl
  · exact Kd.R_drew (Kd.R_far (Kd.R_far hD (p := ⟨gp, 2, none⟩) (fun k hk => by subst hk; exact Ne.symm h.ne.2.1) _) (p := ⟨gp, 3, none⟩) (fun k hk => by subst hk; exact Ne.symm h.ne.2.1) _)
theorem hk_QE.drew {w0 w : World} {gp gs gd : Nat} {P : Option Addr} {np cp cS cD : Nat} {u : Int} {src : List Int} {ex : List (Nat × Obj)} {W : World} (h : hk_QE w0 w gp gs gd P np cp cS cD u src ex W) : hk_QE w0 w gp gs gd P np cp cS cD u src ex W.drew := h.below (below_drew (Below.refl _ _))
/-- A kernel by quarters stands: its blocks lie between lo and hi. -/
def hk_K4 (k : Nat) (t0 t1 : List Int) (u0 u1 s : Int) (lo hi b : Nat) (W : World) : Prop :=
  (lo ≤ b ∧ b < hi) ∧ ∃ (b2 : Nat) (v0 v1 x0 x1 x2 : Value), (lo ≤ b2 ∧ b2 < hi) ∧ W.heap[b]? = some (.cells #[.pointer (some ⟨b2, 0, none⟩), v0, v1, .int .u64 u0, .int .u64 u1, .int .u64 s] 92 (0, 0)) ∧ W.heap[b2]? = some (.cells #[x0, x1, x2, .int .i64 (k : Int)] 104 (0, 0)) ∧
    Kd.R (Kd.int .u64) 29 W lo (fun j => j < hi) v0 t0 ∧ Kd.R (Kd.int .u64) 29 W lo (fun j => j < hi) v1 t1
section
variable {k : Nat} {t0 t1 : List Int} {u0 u1 s : Int} {lo hi b : Nat} {W W2 : World} {S : Nat → Prop}
theorem hk_K4.kept (h : hk_K4 k t0 t1 u0 u1 s lo hi b W) (hk : Kept W W2 S) (hS : ∀ j, S j → j < lo ∨ hi ≤ j) : hk_K4 k t0 t1 u0 u1 s lo hi b W2 := by
  obtain ⟨⟨h0, h1⟩, b2, v0, v1, x0, x1, x2, h2, hX, hX2, hR0, hR1⟩ := h
  have no : ∀ j, lo ≤ j → j < hi → ¬ S j := fun j hl hj hs => by have := hS j hs; omega
  exact ⟨⟨h0, h1⟩, b2, v0, v1, x0, x1, x2, h2, blk_kept hX hk (no b h0 h1), blk_kept hX2 hk (no b2 h2.1 h2.2), Kd.R_mono (Kd.R_kept (Kd.R_bound hR0) hk (fun j hj => no j hj.2.1 hj.1)) (fun j hj => hj.1), Kd.R_mono (Kd.R_kept (Kd.R_bound hR1) hk (fun j hj => no j hj.2.1 hj.1)) (fun j hj => hj.1)⟩
theorem hk_K4.below (h : hk_K4 k t0 t1 u0 u1 s lo hi b W) (hb : Below W.heap.size W W2) : hk_K4 k t0 t1 u0 u1 s lo hi b W2 :=
  h.kept (Kept.of_below hb (fun _ => False)) (fun _ hf => hf.elim)
end
/-! ### kern4_Cross: function 85 (by hand) -/
set_option maxHeartbeats 8000000 in
set_option maxRecDepth 100000 in
theorem kern4_Cross.calls (a b c d u s t v q m y0 y1 y2 y3 : Int) (w : World) (h1 : gold_Add.f a c = some s) (h2 : gold_Sub.f a c = some t) (h3 : gold_Add.f b d = some v) (h4: gold_Sub.f b d = some q) (h5 : gold_Mul.f u q = some m) (h6 : gold_Add.f s v = some y0) (h7 : gold_Add.f t m = some y1) (h8 : gold_Sub.f s v = some y2) (h9 : gold_Sub.f t m = some y3) :
    Calls Try.prog 85 #[.int .u64 a, .int .u64 b, .int .u64 c, .int .u64 d, .int .u64 u] w fun e w' => e = .returned (.agg #[.int .u64 y0, .int .u64 y1, .int .u64 y2, .int .u64 y3]) ∧ Below w.heap.size w w' := by
  have A1 := Aside0.mk h1
  have A2 := Aside0.mk h2
  have A3 := Aside0.mk h3
  have A4 := Aside0.mk h4
  have A5 := Aside0.mk h5
  have A6 := Aside0.mk h6
  have A7 := Aside0.mk h7
  have A8 := Aside0.mk h8
  have A9 := Aside0.mk h9
  clear h1 h2 h3 h4 h5 h6 h7 h8 h9
  go_enter Try.func85, Try.ntmps85
  go_wp2_with fail
  have BK := Aside0.mk (show (w.alloc (.cells #[.int .u64 0, .int .u64 0, .int .u64 0, .int .u64 0] 107)).heap[w.heap.size]? = some (.cells #[.int .u64 0, .int .u64 0, .int .u64 0, .int .u64 0] 107 (0,0)) from Array.getElem?_push_size)
  have HB := Aside0.mk ((Below.refl w.heap.size w).alloc (Nat.le_refl _) (.cells #[.int .u64 0, .int .u64 0, .int .u64 0, .int .u64 0] 107))
  have BZ := Aside0.mk (show w.heap.size < (w.alloc (.cells #[.int .u64 0, .int .u64 0, .int .u64 0, .int .u64 0] 107)).heap.size by simp)
  obtain ⟨bb, hbb⟩ : ∃ b, b = w.heap.size := ⟨_, rfl⟩
  rw [← hbb] at BK BZ ⊢
  have Hb := Aside0.mk hbb
  clear hbb
  generalize w.alloc (.cells #[.int .u64 0, .int .u64 0, .int .u64 0, .int .u64 0] 107) = W1 at BK HB BZ ⊢
  go_wp2_with (first | (go_at_call 29; (first | (with_reducible refine (gold_Add.calls a c s _ A1.out).mono ?_) | (with_reducible refine (gold_Add.calls b d v _ A3.out).mono ?_) | (with_reducible refine (gold_Add.calls s v y0 _ A6.out).mono ?_) | (with_reducible refine (gold_Add.calls t m y1 _ A7.out).mono ?_)); rintro e w1 ⟨rfl, hb1⟩; have n0_ := Aside0.mk ((hb1.block _ BZ.out).trans BK.out); have n1_ := Aside0.mk (HB.out.trans (hb1.mono HB.out.size)); have n2_ := Aside0.mk (Nat.lt_of_lt_of_le BZ.out hb1.size); clear BK HB BZ hb1; have BK := n0_; have HB := n1_; have BZ := n2_; clear n0_ n1_ n2_) | (go_at_call 86; (first | (with_reducible refine (gold_Sub.calls a c t _ A2.out).mono ?_) | (with_reducible refine (gold_Sub.calls b d q _ A4.out).mono ?_) | (with_reducible refine (gold_Sub.calls s v y2 _ A8.out).mono ?_)); rintro e w1 ⟨rfl, hb1⟩; have n0_ := Aside0.mk ((hb1.block _ BZ.out).trans BK.out); have n1_ := Aside0.mk (HB.out.trans (hb1.mono HB.out.size)); have n2_ := Aside0.mk (Nat.lt_of_lt_of_le BZ.out hb1.size); clear BK HB BZ hb1; have BK := n0_; have HB := n1_; have BZ := n2_; clear n0_ n1_ n2_) | (go_at_call 86; (with_reducible refine (gold_Sub.calls t m y3 _ A9.out).mono ?_); rintro e w1 ⟨rfl, hb1⟩; have n0_ := Aside0.mk ((hb1.block _ BZ.out).trans BK.out); have n1_ := Aside0.mk (HB.out.trans (hb1.mono HB.out.size)); have n2_ := Aside0.mk (Nat.lt_of_lt_of_le BZ.out hb1.size); clear BK HB BZ hb1; have BK := n0_; have HB := n1_; have BZ := n2_; clear n0_ n1_ n2_; have hc0 := hk_blk_cell BK.out 0 _ rfl; have hc1 := hk_blk_cell BK.out 1 _ rfl; have hc2 := hk_blk_cell BK.out 2 _ rfl; have hc3 := hk_blk_cell BK.out 3 _ rfl; have hf0 := hk_blk_frozen BK.out 0; have hf1 := hk_blk_frozen BK.out 1; have hf2 := hk_blk_frozen BK.out 2; have hf3 := hk_blk_frozen BK.out 3) | (go_at_call 28; (with_reducible refine (gold_Mul.calls u q m _ A5.out).mono ?_); rintro e w1 ⟨rfl, hb1⟩; have n0_ := Aside0.mk ((hb1.block _ BZ.out).trans BK.out); have n1_ := Aside0.mk (HB.out.trans (hb1.mono HB.out.size)); have n2_ := Aside0.mk (Nat.lt_of_lt_of_le BZ.out hb1.size); clear BK HB BZ hb1; have BK := n0_; have HB := n1_; have BZ := n2_; clear n0_ n1_ n2_))
  clear hc0 hc1 hc2 hc3 hf0 hf1 hf2 hf3
  have X := blk_put (blk_put (blk_put (blk_put BK.out 0 (.int .u64 y0) rfl) 1 (.int .u64 y1) rfl) 2 (.int .u64 y2) rfl) 3 (.int .u64 y3) rfl
  have hge : w.heap.size ≤ bb := by rw [Hb.out]; exact Nat.le_refl _
  refine bodyPost_ret (results_cell_row rfl _ _ bb 107 #[.int .u64 y0, .int .u64 y1, .int .u64 y2, .int .u64 y3] (0, 0) _ rfl X Try.underlying107 rfl (by kernel_rfl)) rfl ?_
  exact ⟨rfl, below_set (below_set (below_set (below_set HB.out hge) hge) hge) hge⟩
def hk_crossO (a b c d u : Int) : Option (Int × Int × Int × Int) := (gold_Add.f a c).bind fun s => (gold_Sub.f a c).bind fun t => (gold_Add.f b d).bind fun v => (gold_Sub.f b d).bind fun q => (gold_Mul.f u q).bind fun m => (gold_Add.f s v).bind fun y0 => (gold_Add.f t m).bind fun y1 => (gold_Sub.f s v).bind fun y2 => (gold_Sub.f t m).bind fun y3 => some (y0, y1, y2, y3)
theorem kern4_Cross.callsO (a b c d u y0 y1 y2 y3 : Int) (w : World) (h : hk_crossO a b c d u = some (y0, y1, y2, y3)) :
    Calls Try.prog 85 #[.int .u64 a, .int .u64 b, .int .u64 c, .int .u64 d, .int .u64 u] w fun e w' => e = .returned (.agg #[.int .u64 y0, .int .u64 y1, .int .u64 y2, .int .u64 y3]) ∧ Below w.heap.size w w' := by
  unfold hk_crossO at h
  obtain ⟨s, h1, h⟩ := Option.bind_eq_some_iff.1 h
  obtain ⟨t, h2, h⟩ := Option.bind_eq_some_iff.1 h
  obtain ⟨v, h3, h⟩ := Option.bind_eq_some_iff.1 h
  obtain ⟨q, h4, h⟩ := Option.bind_eq_some_iff.1 h
  obtain ⟨m, h5, h⟩ := Option.bind_eq_some_iff.1 h
  obtain ⟨z0, h6, h⟩ := Option.bind_eq_some_iff.1 h
  obtain ⟨z1, h7, h⟩ := Option.bind_eq_some_iff.1 h
  obtain ⟨z2, h8, h⟩ := Option.bind_eq_some_iff.1 h
  obtain ⟨z3, h9, h⟩ := Option.bind_eq_some_iff.1 h
  injection h with h
  injection h with e0 h
  injection h with e1 h
  injection h with e2 e3
  subst e0 e1 e2 e3
  exact kern4_Cross.calls a b c d u s t v q m z0 z1 z2 z3 w h1 h2 h3 h4 h5 h6 h7 h8 h9

/-! ### kern4_pass_quarter: function 80 (by hand) -/
theorem hk_quarter1_ix {n q s i j X : Nat} (h : X = q + s * (i + j * (n / 4))) (hX : X ≤ 1048576) (hn : n ≤ 1048576) (hs : 0 < s) : IntKind.i64.wrap ((q : Int) + IntKind.i64.wrap ((s : Int) * IntKind.i64.wrap ((i : Int) + IntKind.i64.wrap ((j : Int) * IntKind.i64.wrap ((n : Int).tdiv 4))))) = (X : Int) := by
  have h1 : i + j * (n / 4) ≤ s * (i + j * (n / 4)) := Nat.le_mul_of_pos_left _ hs
  have h2 : s * (i + j * (n / 4)) ≤ X := by rw [h]; exact Nat.le_add_left _ _
  have h3 : i + j * (n / 4) ≤ 1048576 := Nat.le_trans h1 (Nat.le_trans h2 hX)
  have h4 : j * (n / 4) ≤ 1048576 := Nat.le_trans (Nat.le_add_left _ _) h3
  have e0 : (n : Int).tdiv 4 = ((n / 4 : Nat) : Int) := by rw [Int.tdiv_eq_ediv_of_nonneg (by omega)]; rfl
  rw [e0, hk_wn (show n / 4 ≤ 1048576 by omega), ← Int.natCast_mul, hk_wn h4, ← Int.natCast_add, hk_wn h3, ← Int.natCast_mul, hk_wn (Nat.le_trans h2 hX), ← Int.natCast_add, ← h, hk_wn hX]
set_option maxHeartbeats 800000 in
set_option maxRecDepth 100000 in
theorem hk_quarter1.calls (j n q s i : Int) (X : Nat) (b1 b2 b3 b4 b5 gp : Nat) (S : Option Addr) (cS : Nat) (L : List Int) (w : World)
    (h1 : w.cell? ⟨b1, 0, none⟩ = some (.pointer (some ⟨gp, 0, none⟩))) (h2 : w.cell? ⟨b2, 0, none⟩ = some (.int .i64 q)) (h3 : w.cell? ⟨b3, 0, none⟩ = some (.int .i64 s)) (h4 : w.cell? ⟨b4, 0, none⟩ = some (.int .i64 i)) (h5 : w.cell? ⟨b5, 0, none⟩ = some (.int .i64 n))
    (hp : w.cell? ⟨gp, 2, none⟩ = some (.slice S L.length cS)) (hS : Kd.C (Kd.int .u64) w S L.length L) (hX : IntKind.i64.wrap (q + IntKind.i64.wrap (s * IntKind.i64.wrap (i + IntKind.i64.wrap (j * IntKind.i64.wrap (n.tdiv 4))))) = (X : Int)) (hl : X < L.length) (hn : 0 ≤ n) :
    Calls Try.prog 84 #[.int .i64 j, .pointer (some ⟨b1, 0, none⟩), .pointer (some ⟨b2, 0, none⟩), .pointer (some ⟨b3, 0, none⟩), .pointer (some ⟨b4, 0, none⟩), .pointer (some ⟨b5, 0, none⟩)] w fun e w' => e = .returned (.int .u64 (rd L (X : Int))) ∧ Drawn0 w w' := by
  obtain ⟨ad, eS, hx⟩ := Kd.at_int hS (X : Int) (by omega) (by omega)
  subst eS
  rw [Int.toNat_natCast] at hx
  have p0 : (0 ≤ (X : Int)) = True := eq_true (by omega)
  have p1 : ((X : Int) < (L.length : Int)) = True := eq_true (by omega)
  clear hS hl
  go_enter Try.func84, Try.ntmps84
  go_wp2
  go_quiet (skip)
  go_wp2
  go_ret
  exact ⟨rfl, ⟨_, rfl⟩⟩
/-- One crossing, laid where it belongs. -/
def hk_qstep (pw src : List Int) (u : Int) (n s st i q : Nat) (d : List Int) : Option (List Int) :=
  (hk_crossO (rd src ((q + s * (i + 0 * (n / 4)) : Nat) : Int)) (rd src ((q + s * (i + 1 * (n / 4)) : Nat) : Int)) (rd src ((q + s * (i + 2 * (n / 4)) : Nat) : Int)) (rd src ((q + s * (i + 3 * (n / 4)) : Nat) : Int)) u).bind fun y =>
  (gold_Mul.f y.2.1 (rd pw ((i * st : Nat) : Int))).bind fun z1 => (gold_Mul.f y.2.2.1 (rd pw ((2 * i * st : Nat) : Int))).bind fun z2 => (gold_Mul.f y.2.2.2 (rd pw ((3 * i * st : Nat) : Int))).bind fun z3 =>
  some ((((d.set (q + s * 4 * i) y.1).set (q + s * 4 * i + s) z1).set (q + s * 4 * i + 2 * s) z2).set (q + s * 4 * i + 3 * s) z3)
def hk_qin (pw src : List Int) (u : Int) (n s st i : Nat) (d : List Int) : Nat → Option (List Int)
  | 0 => some d
  | q + 1 => (hk_qin pw src u n s st i d q).bind (hk_qstep pw src u n s st i q)
def hk_qout (pw src : List Int) (u : Int) (n s st : Nat) (d : List Int) : Nat → Option (List Int)
  | 0 => some d
  | i + 1 => (hk_qout pw src u n s st d i).bind fun x => hk_qin pw src u n s st i x s
theorem hk_qin_down {pw src : List Int} {u : Int} {n s st i : Nat} {d : List Int} : ∀ {j m : Nat} {r : List Int}, hk_qin pw src u n s st i d (j + m) = some r → ∃ x, hk_qin pw src u n s st i d j = some x
  | j, 0, r, h => ⟨r, h⟩
  | j, m + 1, r, h => by
    unfold hk_qin at h
    obtain ⟨x, hx, _⟩ := Option.bind_eq_some_iff.1 h
    exact hk_qin_down (m := m) hx
theorem hk_qout_down {pw src : List Int} {u : Int} {n s st : Nat} {d : List Int} : ∀ {j m : Nat} {r : List Int}, hk_qout pw src u n s st d (j + m) = some r → ∃ x, hk_qout pw src u n s st d j = some x
  | j, 0, r, h => ⟨r, h⟩
  | j, m + 1, r, h => by
    unfold hk_qout at h
    obtain ⟨x, hx, _⟩ := Option.bind_eq_some_iff.1 h
    exact hk_qout_down (m := m) hx
theorem hk_to_ix {q s i ta : Nat} (h : ta = q + s * 4 * i) (h1 : ta ≤ 1048576) (h2 : s * 4 ≤ 1048576) : wrap64 ((q : Int) + wrap64 (wrap64 ((s : Int) * 4) * (i : Int))) = (ta : Int) := by
  have h3 : s * 4 * i ≤ 1048576 := Nat.le_trans (by rw [h]; exact Nat.le_add_left _ _) h1
  have e1 : wrap64 ((s : Int) * 4) = ((s * 4 : Nat) : Int) := by rw [← i64_w]; exact hk_wn (z := s * 4) h2
  rw [e1, ← i64_w, ← i64_w, ← Int.natCast_mul, hk_wn h3, ← Int.natCast_add, ← h, hk_wn h1]
theorem hk_quarter1.of (w0 w W : World) (gp gs gd b3 b4 b5 b7 b11 : Nat) (P : Option Addr) (np cp cS cD : Nat) (u : Int) (src : List Int) (n s i q : Nat) (j : Int) (X : Nat)
    (h : hk_QE w0 w gp gs gd P np cp cS cD u src [(b11, .cells #[.int .i64 (q : Int)] 3 (0, 0)), (b7, .cells #[.int .i64 (i : Int)] 3 (0, 0)), (b3, .cells #[.pointer (some ⟨gp, 0, none⟩)] 96 (0, 0)), (b4, .cells #[.int .i64 (n : Int)] 3 (0, 0)), (b5, .cells #[.int .i64 (s : Int)] 3 (0, 0))] W)
    (hX : IntKind.i64.wrap ((q : Int) + IntKind.i64.wrap ((s : Int) * IntKind.i64.wrap ((i : Int) + IntKind.i64.wrap (j * IntKind.i64.wrap ((n : Int).tdiv 4))))) = (X : Int)) (hl : X < src.length) :
    Calls Try.prog 84 #[.int .i64 j, .pointer (some ⟨b3, 0, none⟩), .pointer (some ⟨b11, 0, none⟩), .pointer (some ⟨b5, 0, none⟩), .pointer (some ⟨b7, 0, none⟩), .pointer (some ⟨b4, 0, none⟩)] W fun e w' => e = .returned (.int .u64 (rd src (X : Int))) ∧ Drawn0 W w' :=
  hk_quarter1.calls j n q s i X b3 b11 b5 b7 b4 gp (some ⟨gs, 0, none⟩) cS src W (h.cell (List.Mem.tail _ (List.Mem.tail _ (List.Mem.head _))) 0 _ rfl) (h.cell (List.Mem.head _) 0 _ rfl) (h.cell (List.Mem.tail _ (List.Mem.tail _ (List.Mem.tail _ (List.Mem.tail _ (List.Mem.head _))))) 0 _ rfl) (h.cell (List.Mem.tail _ (List.Mem.head _)) 0 _ rfl) (h.cell (List.Mem.tail _ (List.Mem.tail _ (List.Mem.tail _ (List.Mem.head _)))) 0 _ rfl) (hk_blk_cell h.hX 2 _ rfl) (Kd.R_reads' h.hS).2.2 hX hl (by omega)
theorem hk_new_blk (W : World) (cs : Array Value) (t : TypeId) : (W.alloc (.cells cs t)).heap[W.heap.size]? = some (.cells cs t (0, 0)) := show (W.heap.push _)[W.heap.size]? = _ from Array.getElem?_push_size
theorem hk_put4 {W : World} {g : Nat} {t : TypeId} {v0 v1 v2 v3 : Value} (a b c d : Value) (h : W.heap[g]? = some (.cells #[v0, v1, v2, v3] t (0, 0))) : ((((W.setCell ⟨g, 0, none⟩ a).setCell ⟨g, 1, none⟩ b).setCell ⟨g, 2, none⟩ c).setCell ⟨g, 3, none⟩ d).heap[g]? = some (.cells #[a, b, c, d] t (0, 0)) :=
  blk_put (blk_put (blk_put (blk_put h 0 a rfl) 1 b rfl) 2 c rfl) 3 d rfl
theorem hk_quarter1.of' (w0 w V0 W : World) (gp gs gd b3 b4 b5 b7 b11 : Nat) (P : Option Addr) (np cp cS cD : Nat) (u : Int) (src : List Int) (n s i q : Nat) (j : Int) (X : Nat)
    (h : hk_QE w0 w gp gs gd P np cp cS cD u src [(b11, .cells #[.int .i64 (q : Int)] 3 (0, 0)), (b7, .cells #[.int .i64 (i : Int)] 3 (0, 0)), (b3, .cells #[.pointer (some ⟨gp, 0, none⟩)] 96 (0, 0)), (b4, .cells #[.int .i64 (n : Int)] 3 (0, 0)), (b5, .cells #[.int .i64 (s : Int)] 3 (0, 0))] V0) (hv : Below V0.heap.size V0 W)
    (hX : IntKind.i64.wrap ((q : Int) + IntKind.i64.wrap ((s : Int) * IntKind.i64.wrap ((i : Int) + IntKind.i64.wrap (j * IntKind.i64.wrap ((n : Int).tdiv 4))))) = (X : Int)) (hl : X < src.length) :
    Calls Try.prog 84 #[.int .i64 j, .pointer (some ⟨b3, 0, none⟩), .pointer (some ⟨b11, 0, none⟩), .pointer (some ⟨b5, 0, none⟩), .pointer (some ⟨b7, 0, none⟩), .pointer (some ⟨b4, 0, none⟩)] W fun e w' => e = .returned (.int .u64 (rd src (X : Int))) ∧ Below V0.heap.size V0 w' ∧ ∀ (g : Nat) (o : Obj), W.heap[g]? = some o → w'.heap[g]? = some o :=
  (hk_quarter1.of w0 w W gp gs gd b3 b4 b5 b7 b11 P np cp cS cD u src n s i q j X (h.below hv) hX hl).mono (fun e w' hh => ⟨hh.1, hv.trans ((hk_drawn_below hh.2).mono hv.size), fun g o hg => ((hk_drawn_below hh.2).block g (blk_lt hg)).trans hg⟩)
theorem kern4_Cross.of (a b c d u y0 y1 y2 y3 : Int) (V0 W : World) (h : hk_crossO a b c d u = some (y0, y1, y2, y3)) (hv : Below V0.heap.size V0 W) :
    Calls Try.prog 85 #[.int .u64 a, .int .u64 b, .int .u64 c, .int .u64 d, .int .u64 u] W fun e w' => e = .returned (.agg #[.int .u64 y0, .int .u64 y1, .int .u64 y2, .int .u64 y3]) ∧ Below V0.heap.size V0 w' ∧ ∀ (g : Nat) (o : Obj), W.heap[g]? = some o → w'.heap[g]? = some o :=
  (kern4_Cross.callsO a b c d u y0 y1 y2 y3 W h).mono (fun e w' hh => ⟨hh.1, hv.trans (hh.2.mono hv.size), fun g o hg => (hh.2.block g (blk_lt hg)).trans hg⟩)
theorem hk_ix_lt {n s i q j L : Nat} (hL : L = n * s) (hi : i < n / 4) (hq : q < s) (hj : j < 4) : q + s * (i + j * (n / 4)) < L := by
  have h1 : i + j * (n / 4) + 1 ≤ n := by
    have h2 : j * (n / 4) ≤ 3 * (n / 4) := Nat.mul_le_mul_right _ (by omega)
    omega
  have h3 : (i + j * (n / 4) + 1) * s ≤ n * s := Nat.mul_le_mul_right _ h1
  rw [Nat.add_mul, Nat.one_mul, Nat.mul_comm _ s] at h3
  omega
theorem hk_to_lt {n s i q j L : Nat} (hL : L = n * s) (hi : i < n / 4) (hq : q < s) (hj : j < 4) : q + s * 4 * i + j * s < L := by
  have h1 : 4 * i + j + 1 ≤ n := by omega
  have h3 : (4 * i + j + 1) * s ≤ n * s := Nat.mul_le_mul_right _ h1
  have e : s * 4 * i = 4 * i * s := by rw [Nat.mul_assoc, Nat.mul_comm]
  rw [Nat.add_mul, Nat.add_mul, Nat.one_mul] at h3
  omega
set_option maxHeartbeats 40000000 in
set_option maxRecDepth 100000 in
theorem kern4_quarter.calls (n s : Nat) (u : Int) (gp gs gd : Nat) (P : Option Addr) (cp cS cD : Nat) (pw src d r : List Int) (w0 w : World) (hB : Below w0.heap.size w0 w)
    (hX : w.heap[gp]? = some (.cells #[.slice P pw.length cp, .int .u64 u, .slice (some ⟨gs, 0, none⟩) src.length cS, .slice (some ⟨gd, 0, none⟩) src.length cD] 98 (0, 0)))
    (hP : ∀ W, Kept w W (fun j => j = gp ∨ j = gd) → Kd.C (Kd.int .u64) W P pw.length pw)
    (hSr : Kd.R (Kd.int .u64) 29 w w0.heap.size (fun j => j = gs) (.slice (some ⟨gs, 0, none⟩) src.length cS) src) (hDr : Kd.R (Kd.int .u64) 29 w w0.heap.size (fun j => j = gd) (.slice (some ⟨gd, 0, none⟩) src.length cD) d)
    (hgp : w0.heap.size ≤ gp) (hne1 : gs ≠ gp) (hne2 : gd ≠ gp) (hne3 : gs ≠ gd) (hs : 0 < s) (hn : 4 ≤ n) (hN : src.length = n * s) (hN2 : src.length ≤ 1048576) (hpw : ∀ i, i < n / 4 → 3 * i * (src.length / n) < pw.length) (hpw2 : pw.length ≤ 1048576) (h : hk_qout pw src u n s (src.length / n) d (n / 4) = some r) :
    Calls Try.prog 80 #[.pointer (some ⟨gp, 0, none⟩), .int .i64 n, .int .i64 s] w fun e w' => e = .returned (.tuple #[]) ∧ Below w0.heap.size w0 w' ∧ Kept w w' (fun j => j = gp ∨ j = gd) ∧
      w'.heap[gp]? = some (.cells #[.slice P pw.length cp, .int .u64 u, .slice (some ⟨gd, 0, none⟩) src.length cD, .slice (some ⟨gs, 0, none⟩) src.length cS] 98 (0, 0)) ∧
      Kd.R (Kd.int .u64) 29 w' w0.heap.size (fun j => j = gd) (.slice (some ⟨gd, 0, none⟩) src.length cD) r := by
  have HB := Aside0.mk hB
  have HX := Aside0.mk hX
  have HP := Aside0.mk hP
  have HS := Aside0.mk hSr
  have HD := Aside0.mk hDr
  have HN := Aside0.mk hN
  have HN2 := Aside0.mk hN2
  have HH := Aside0.mk h
  have HNE := Aside0.mk (And.intro hgp (And.intro hne1 (And.intro hne2 hne3)))
  have HSN := Aside0.mk (And.intro hs hn)
  have HPW := Aside0.mk hpw
  have HPW2 := Aside0.mk hpw2
  clear hB hX hP hSr hDr hgp hne1 hne2 hne3 hs hn hN hN2 hpw hpw2 h
  go_enter Try.func80, Try.ntmps80
  go_wp2
  have hn1 : n ≤ src.length := by rw [HN.out]; exact Nat.le_mul_of_pos_right _ HSN.out.1
  have hn2 : n ≤ 1048576 := Nat.le_trans hn1 HN2.out
  have Hn2 := Aside0.mk hn2
  have hst : wrap64 ((src.length : Int) / (n : Int)) = ((src.length / n : Nat) : Int) := by rw [← Int.natCast_ediv, ← i64_w]; exact hk_wn (Nat.le_trans (Nat.div_le_self _ _) HN2.out)
  obtain ⟨st, hsteq⟩ : ∃ st, st = src.length / n := ⟨_, rfl⟩
  rw [← hsteq] at hst HH
  have HST := Aside0.mk hst
  clear hst
  have Hst := Aside0.mk hsteq
  have hn0 : ((n : Int) == 0) = false := by have := HSN.out.2; rw [beq_eq_false_iff_ne]; omega
  have hn0b : (n = 0) = False := eq_false (by have := HSN.out.2; omega)
  have hn0c : (n == 0) = false := by have := HSN.out.2; rw [beq_eq_false_iff_ne]; omega
  clear hn1 hn2 hsteq
  have hb0 : Below w.heap.size w (((w.alloc (.cells #[.pointer (some ⟨gp, 0, none⟩)] 96)).alloc (.cells #[.int .i64 (n : Int)] 3)).alloc (.cells #[.int .i64 (s : Int)] 3)) := (((Below.refl w.heap.size w).alloc (Nat.le_refl _) _).alloc (by simp) _).alloc (by simp; omega) _
  have h3 : (((w.alloc (.cells #[.pointer (some ⟨gp, 0, none⟩)] 96)).alloc (.cells #[.int .i64 (n : Int)] 3)).alloc (.cells #[.int .i64 (s : Int)] 3)).heap[w.heap.size]? = some (.cells #[.pointer (some ⟨gp, 0, none⟩)] 96 (0, 0)) := by
    rw [Below.heap_alloc _ _ _ (by simp; omega), Below.heap_alloc _ _ _ (by simp)]; exact Array.getElem?_push_size
  have h4 : (((w.alloc (.cells #[.pointer (some ⟨gp, 0, none⟩)] 96)).alloc (.cells #[.int .i64 (n : Int)] 3)).alloc (.cells #[.int .i64 (s : Int)] 3)).heap[w.heap.size + 1]? = some (.cells #[.int .i64 (n : Int)] 3 (0, 0)) := by
    rw [Below.heap_alloc _ _ _ (by simp), show w.heap.size + 1 = (w.alloc (.cells #[.pointer (some ⟨gp, 0, none⟩)] 96)).heap.size by simp]; exact Array.getElem?_push_size
  have h5 : (((w.alloc (.cells #[.pointer (some ⟨gp, 0, none⟩)] 96)).alloc (.cells #[.int .i64 (n : Int)] 3)).alloc (.cells #[.int .i64 (s : Int)] 3)).heap[w.heap.size + 1 + 1]? = some (.cells #[.int .i64 (s : Int)] 3 (0, 0)) := by
    rw [show w.heap.size + 1 + 1 = ((w.alloc (.cells #[.pointer (some ⟨gp, 0, none⟩)] 96)).alloc (.cells #[.int .i64 (n : Int)] 3)).heap.size by simp]; exact Array.getElem?_push_size
  have hgd : gd < w.heap.size := Kd.R_lt HD.out gd rfl
  have hgd0 : w0.heap.size ≤ gd := by
    obtain ⟨g', c', e', hb', _⟩ := Kd.R_form HD.out (by
      have := Kd.R_reads' HD.out
      rw [← this.1, HN.out]; exact Nat.mul_pos (by have := HSN.out.2; omega) HSN.out.1)
    injection e' with e1; injection e1 with e1; injection e1 with e1; rw [e1]; exact hb'
  have Q0 : hk_QE w0 w gp gs gd P pw.length cp cS cD u src [(w.heap.size, .cells #[.pointer (some ⟨gp, 0, none⟩)] 96 (0, 0)), (w.heap.size + 1, .cells #[.int .i64 (n : Int)] 3 (0, 0)), (w.heap.size + 1 + 1, .cells #[.int .i64 (s : Int)] 3 (0, 0))] (((w.alloc (.cells #[.pointer (some ⟨gp, 0, none⟩)] 96)).alloc (.cells #[.int .i64 (n : Int)] 3)).alloc (.cells #[.int .i64 (s : Int)] 3)) :=
    ⟨HB.out.trans (hb0.mono HB.out.size), Kept.of_below hb0 _, (hb0.block _ (blk_lt HX.out)).trans HX.out, Kd.R_below HS.out hb0, fun p hp => by
      simp only [List.mem_cons, List.not_mem_nil, or_false] at hp
      rcases hp with rfl | rfl | rfl
      · exact ⟨h3, by show _ ≠ _; omega⟩
      · exact ⟨h4, by show _ ≠ _; omega⟩
      · exact ⟨h5, by show _ ≠ _; omega⟩, hgd0, Ne.symm HNE.out.2.2.1, HNE.out.2.2.2⟩
  have D0 := Kd.R_below HD.out hb0
  have hbz : w.heap.size + 1 + 1 < (((w.alloc (.cells #[.pointer (some ⟨gp, 0, none⟩)] 96)).alloc (.cells #[.int .i64 (n : Int)] 3)).alloc (.cells #[.int .i64 (s : Int)] 3)).heap.size := by simp
  clear h3 h4 h5 hb0 hgd hgd0
  generalize (((w.alloc (.cells #[.pointer (some ⟨gp, 0, none⟩)] 96)).alloc (.cells #[.int .i64 (n : Int)] 3)).alloc (.cells #[.int .i64 (s : Int)] 3)) = W3 at Q0 D0 hbz ⊢
  obtain ⟨b4, hb4⟩ : ∃ b, b = w.heap.size + 1 := ⟨_, rfl⟩
  obtain ⟨b5, hb5⟩ : ∃ b, b = w.heap.size + 1 + 1 := ⟨_, rfl⟩
  obtain ⟨b3, hb3⟩ : ∃ b, b = w.heap.size := ⟨_, rfl⟩
  rw [← hb5, ← hb4, ← hb3] at Q0 ⊢
  rw [← hb5] at hbz
  have HGB := Aside0.mk (show gp ≠ b3 by have := blk_lt HX.out; omega)
  clear hb3 hb4 hb5 hbz
  have Q0 := Aside0.mk Q0
  have D0 := Aside0.mk D0
  have c3 := Q0.out.cell (List.Mem.head _) 0 _ rfl
  have c4 := Q0.out.cell (List.Mem.tail _ (List.Mem.head _)) 0 _ rfl
  have cX := hk_blk_cell Q0.out.hX 2 _ rfl
  go_quiet (skip)
  clear c3 cX
  rw [HST.out]
  have hn4 : wrap64 ((n / 4 : Nat) : Int) = ((n / 4 : Nat) : Int) := by have := Hn2.out; unfold wrap64; omega
  have hn4' : (n : Int) / 4 = ((n / 4 : Nat) : Int) := rfl
  obtain ⟨n4, hn4eq⟩ : ∃ n4, n4 = n / 4 := ⟨_, rfl⟩
  rw [← hn4eq] at hn4 hn4' HH
  have Hn4 := Aside0.mk hn4eq
  clear hn4eq
  have HN4 := Aside0.mk hn4
  clear hn4
  go_wp2_with fail
  rw [HN4.out]
  clear hn4'
  have Q1 := Aside0.mk (Q0.out.drewN nq)
  have D1 := Aside0.mk (Kd.R_drewN D0.out nq)
  clear c4
  generalize W3.drewN nq = W4 at Q1 D1 ⊢
  have QI := Aside0.mk Q1.out
  go_loopg [24] n4 (fun kq v24 w' => ∃ (i : Nat) (x : List Int), v24 = .int .i64 (i : Int) ∧ Aside0 (kq + i = n4) ∧ Aside0 (hk_qout pw src u n s st d i = some x) ∧ Aside0 (hk_QE w0 w gp gs gd P pw.length cp cS cD u src [(b3, .cells #[.pointer (some ⟨gp, 0, none⟩)] 96 (0, 0)), (b4, .cells #[.int .i64 (n : Int)] 3 (0, 0)), (b5, .cells #[.int .i64 (s : Int)] 3 (0, 0))] w') ∧ Aside0 (Kd.R (Kd.int .u64) 29 w' w0.heap.size (fun j => j = gd) (.slice (some ⟨gd, 0, none⟩) src.length cD) x))
  case atStart => exact ⟨0, d, rfl, ⟨by omega⟩, ⟨rfl⟩, Q1, D1⟩
  case round =>
    obtain ⟨i, x, rfl, HI, Hx, HQ, HDx⟩ := hrel
    clear Q0 D0 Q1 D1 QI
    cases gk with
    | zero =>
      have hi := HI.out
      have c1 : decide ((i : Int) < (n4 : Int)) = false := decide_eq_false (by omega)
      have c2 : (i < n4) = False := eq_false (by omega)
      have e : i = n4 := by omega
      rw [e] at Hx
      have er : x = r := by have h1 := Hx.out; rw [HH.out] at h1; injection h1 with h1; exact h1.symm
      rw [er] at HDx
      clear hi e er
      go_wp2_with fail
      have cb3 := HQ.out.cell (List.Mem.head _) 0 _ rfl
      have cX2 := hk_blk_cell HQ.out.hX 2 _ rfl
      have cX3 := hk_blk_cell HQ.out.hX 3 _ rfl
      have fX2 := hk_blk_frozen HQ.out.hX 2
      have fX3 := hk_blk_frozen HQ.out.hX 3
      have hgb := HGB.out
      have hgb' := Ne.symm hgb
      go_region
      all_goals
        obtain ⟨q1, q2, q3, q4⟩ := HQ.out.swap HNE.out.1 HDx.out
        go_end0
        exact ⟨rfl, q1, q2, q3, q4⟩
    | succ k1 =>
      have hi := HI.out
      have c1 : decide ((i : Int) < (n4 : Int)) = true := decide_eq_true (by omega)
      have c2 : (i < n4) = True := eq_true (by omega)
      have HI4 := Aside0.mk (show i < n4 by omega)
      clear hi
      go_wp2_with fail
      have hd7 := Kd.R_lt HDx.out gd rfl
      have H7 := Aside0.mk (HQ.out.alloc hd7 #[.int .i64 (i : Int)] 3)
      have D7 := Aside0.mk (Kd.R_alloc HDx.out (.cells #[.int .i64 (i : Int)] 3))
      obtain ⟨b7, hb7⟩ : ∃ b, b = wr.heap.size := ⟨_, rfl⟩
      rw [← hb7] at H7 ⊢
      clear hd7 hb7 c1 c2
      generalize wr.alloc (.cells #[.int .i64 (i : Int)] 3) = W5 at H7 D7 ⊢
      have hq3 := HPW.out i (by rw [← Hn4.out]; exact HI4.out)
      rw [← Hst.out] at hq3
      have hb3 : 3 * i * st ≤ 1048576 := Nat.le_trans (Nat.le_of_lt hq3) HPW2.out
      have hm1 : i * st ≤ 3 * i * st := by rw [Nat.mul_assoc]; exact Nat.le_mul_of_pos_left _ (by omega)
      have hm2 : 2 * i * st ≤ 3 * i * st := Nat.mul_le_mul_right _ (by omega)
      have hi5 : i ≤ 262144 := by have := HI4.out; have := Hn4.out; have := Hn2.out; omega
      have E1 : IntKind.i64.wrap ((i : Int) * (st : Int)) = ((i * st : Nat) : Int) := by rw [← Int.natCast_mul]; exact hk_wn (by omega)
      have E2a : IntKind.i64.wrap (2 * (i : Int)) = ((2 * i : Nat) : Int) := hk_wn (z := 2 * i) (by omega)
      have E3a : IntKind.i64.wrap (3 * (i : Int)) = ((3 * i : Nat) : Int) := hk_wn (z := 3 * i) (by omega)
      have E2 : IntKind.i64.wrap (((2 * i : Nat) : Int) * (st : Int)) = ((2 * i * st : Nat) : Int) := by rw [← Int.natCast_mul]; exact hk_wn (by omega)
      have E3 : IntKind.i64.wrap (((3 * i : Nat) : Int) * (st : Int)) = ((3 * i * st : Nat) : Int) := by rw [← Int.natCast_mul]; exact hk_wn (by omega)
      obtain ⟨m1, hme1⟩ : ∃ m, m = i * st := ⟨_, rfl⟩
      obtain ⟨m2, hme2⟩ : ∃ m, m = 2 * i * st := ⟨_, rfl⟩
      obtain ⟨m3, hme3⟩ : ∃ m, m = 3 * i * st := ⟨_, rfl⟩
      obtain ⟨i2, hie2⟩ : ∃ m, m = 2 * i := ⟨_, rfl⟩
      obtain ⟨i3, hie3⟩ : ∃ m, m = 3 * i := ⟨_, rfl⟩
      rw [← hme1] at E1 hm1
      rw [← hme2] at E2 hm2
      rw [← hme3] at E3 hm1 hm2 hb3 hq3
      rw [← hie2] at E2 E2a
      rw [← hie3] at E3 E3a
      have hCP := HP.out _ H7.out.hK
      obtain ⟨ad, ea, hx1⟩ := Kd.at_int hCP (m1 : Int) (by omega) (by omega)
      obtain ⟨ad2, ea2, hx2⟩ := Kd.at_int hCP (m2 : Int) (by omega) (by omega)
      obtain ⟨ad3, ea3, hx3⟩ := Kd.at_int hCP (m3 : Int) (by omega) (by omega)
      have ead2 : ad2 = ad := by rw [ea] at ea2; injection ea2 with h; exact h.symm
      have ead3 : ad3 = ad := by rw [ea] at ea3; injection ea3 with h; exact h.symm
      subst ead2 ead3
      rw [Int.toNat_natCast] at hx1 hx2 hx3
      have p1 : ((m1 : Int) < (pw.length : Int)) = True := eq_true (by omega)
      have p2 : ((m2 : Int) < (pw.length : Int)) = True := eq_true (by omega)
      have p3 : ((m3 : Int) < (pw.length : Int)) = True := eq_true (by omega)
      have p1' : (m1 < pw.length) = True := eq_true (by omega)
      have p2' : (m2 < pw.length) = True := eq_true (by omega)
      have p3' : (m3 < pw.length) = True := eq_true (by omega)
      have cb3 := H7.out.cell (List.Mem.tail _ (List.Mem.head _)) 0 _ rfl
      have cb7 := H7.out.cell (List.Mem.head _) 0 _ rfl
      have cX0 := hk_blk_cell H7.out.hX 0 _ rfl
      rw [ea] at cX0
      have HM := Aside0.mk (And.intro hme1 (And.intro hme2 (And.intro hme3 (And.intro hie2 hie3))))
      have EA := Aside0.mk ea
      clear hq3 hb3 hm1 hm2 hi5 hme1 hme2 hme3 hie2 hie3 hCP ea ea2 ea3
      go_quiet (skip)
      have H8 := Aside0.mk (H7.out.drewN nq)
      have D8 := Aside0.mk (Kd.R_drewN D7.out nq)
      clear cb3 cb7 cX0 hx1 hx2 hx3 E1 E2 E3 E2a E3a p1 p2 p3 p1' p2' p3' H7 D7
      generalize W5.drewN nq = W6 at H8 D8 ⊢
      have cb5 := H8.out.cell (List.Mem.tail _ (List.Mem.tail _ (List.Mem.tail _ (List.Mem.head _)))) 0 _ rfl
      have hi := HI.out
      have hdn : ∃ y, hk_qout pw src u n s st d (i + 1) = some y := hk_qout_down (m := k1) (by rw [show i + 1 + k1 = n4 by omega]; exact HH.out)
      obtain ⟨y, hy⟩ := hdn
      have hy2 := hy
      unfold hk_qout at hy2
      rw [Hx.out, Option.bind_some] at hy2
      have HY := Aside0.mk hy
      have HY2 := Aside0.mk hy2
      clear hi hy hy2
      go_wp2_with fail
      go_loopg [57] s (fun kq v57 w' => ∃ (q : Nat) (z : List Int), v57 = .int .i64 (q : Int) ∧ Aside0 (kq + q = s) ∧ Aside0 (hk_qin pw src u n s st i x q = some z) ∧ Aside0 (hk_QE w0 w gp gs gd P pw.length cp cS cD u src [(b7, .cells #[.int .i64 (i : Int)] 3 (0, 0)), (b3, .cells #[.pointer (some ⟨gp, 0, none⟩)] 96 (0, 0)), (b4, .cells #[.int .i64 (n : Int)] 3 (0, 0)), (b5, .cells #[.int .i64 (s : Int)] 3 (0, 0))] w') ∧ Aside0 (Kd.R (Kd.int .u64) 29 w' w0.heap.size (fun j => j = gd) (.slice (some ⟨gd, 0, none⟩) src.length cD) z))
      case atStart => exact ⟨0, x, rfl, ⟨by omega⟩, ⟨rfl⟩, H8, D8⟩
      case round =>
        obtain ⟨q, z, rfl, HJ, Hz, HQq, HDz⟩ := hrel
        clear H8 D8 cb5
        cases gk with
        | zero =>
          have hj := HJ.out
          have c1 : decide ((q : Int) < (s : Int)) = false := decide_eq_false (by omega)
          have c2 : (q < s) = False := eq_false (by omega)
          have e : q = s := by omega
          rw [e] at Hz
          have er : z = y := by have h1 := Hz.out; rw [HY2.out] at h1; injection h1 with h1; exact h1.symm
          rw [er] at HDz
          clear hj e er
          go_wp2_with fail
          go_roundg k1
          case measure => omega
          case rel => exact ⟨i + 1, y, (by rw [show wrap64 ((i : Int) + 1) = ((i + 1 : Nat) : Int) by have := HI4.out; have := Hn4.out; have := Hn2.out; unfold wrap64; omega]), ⟨by have := HI.out; omega⟩, HY, ⟨HQq.out.sub (fun p hp => List.mem_cons_of_mem _ hp)⟩, HDz⟩
        | succ k2 =>
          have hj := HJ.out
          have hqs : q < s := by omega
          have c1 : decide ((q : Int) < (s : Int)) = true := decide_eq_true (by omega)
          have c2 : (q < s) = True := eq_true hqs
          have hdz : ∃ z', hk_qin pw src u n s st i x (q + 1) = some z' := hk_qin_down (m := k2) (by rw [show q + 1 + k2 = s by omega]; exact HY2.out)
          obtain ⟨z', hz'⟩ := hdz
          have hz2 := hz'
          unfold hk_qin at hz2
          rw [Hz.out, Option.bind_some] at hz2
          unfold hk_qstep at hz2
          rw [← HM.out.1, ← HM.out.2.1, ← HM.out.2.2.1] at hz2
          obtain ⟨⟨y0, y1, y2, y3⟩, hcr, hz2⟩ := Option.bind_eq_some_iff.1 hz2
          obtain ⟨z1, hg1, hz2⟩ := Option.bind_eq_some_iff.1 hz2
          obtain ⟨z2, hg2, hz2⟩ := Option.bind_eq_some_iff.1 hz2
          obtain ⟨z3, hg3, hz2⟩ := Option.bind_eq_some_iff.1 hz2
          have hz3 := Option.some.inj hz2
          have HZ' := Aside0.mk hz'
          obtain ⟨x0, ex0⟩ : ∃ x, x = q + s * (i + 0 * (n / 4)) := ⟨_, rfl⟩
          obtain ⟨x1, ex1⟩ : ∃ x, x = q + s * (i + 1 * (n / 4)) := ⟨_, rfl⟩
          obtain ⟨x2, ex2⟩ : ∃ x, x = q + s * (i + 2 * (n / 4)) := ⟨_, rfl⟩
          obtain ⟨x3, ex3⟩ : ∃ x, x = q + s * (i + 3 * (n / 4)) := ⟨_, rfl⟩
          rw [← ex0, ← ex1, ← ex2, ← ex3] at hcr
          have HCR := Aside0.mk hcr
          have HG1 := Aside0.mk hg1
          have HG2 := Aside0.mk hg2
          have HG3 := Aside0.mk hg3
          have HZ3 := Aside0.mk hz3
          have hI4 : i < n / 4 := by rw [← Hn4.out]; exact HI4.out
          have X0 := Aside0.mk (show x0 < src.length by rw [ex0]; exact hk_ix_lt (j := 0) HN.out hI4 hqs (by omega))
          have X1 := Aside0.mk (show x1 < src.length by rw [ex1]; exact hk_ix_lt (j := 1) HN.out hI4 hqs (by omega))
          have X2 := Aside0.mk (show x2 < src.length by rw [ex2]; exact hk_ix_lt (j := 2) HN.out hI4 hqs (by omega))
          have X3 := Aside0.mk (show x3 < src.length by rw [ex3]; exact hk_ix_lt (j := 3) HN.out hI4 hqs (by omega))
          have T0 := Aside0.mk (hk_to_lt (j := 0) HN.out hI4 hqs (by omega))
          have T1 := Aside0.mk (hk_to_lt (j := 1) HN.out hI4 hqs (by omega))
          have T2 := Aside0.mk (hk_to_lt (j := 2) HN.out hI4 hqs (by omega))
          have T3 := Aside0.mk (hk_to_lt (j := 3) HN.out hI4 hqs (by omega))
          have w0x := Aside0.mk (show IntKind.i64.wrap ((q : Int) + IntKind.i64.wrap ((s : Int) * IntKind.i64.wrap ((i : Int) + IntKind.i64.wrap (0 * IntKind.i64.wrap ((n : Int).tdiv 4))))) = (x0 : Int) from hk_quarter1_ix (j := 0) (X := x0) ex0 (Nat.le_trans (Nat.le_of_lt X0.out) HN2.out) Hn2.out HSN.out.1)
          have w1x := Aside0.mk (show IntKind.i64.wrap ((q : Int) + IntKind.i64.wrap ((s : Int) * IntKind.i64.wrap ((i : Int) + IntKind.i64.wrap (1 * IntKind.i64.wrap ((n : Int).tdiv 4))))) = (x1 : Int) from hk_quarter1_ix (j := 1) (X := x1) ex1 (Nat.le_trans (Nat.le_of_lt X1.out) HN2.out) Hn2.out HSN.out.1)
          have w2x := Aside0.mk (show IntKind.i64.wrap ((q : Int) + IntKind.i64.wrap ((s : Int) * IntKind.i64.wrap ((i : Int) + IntKind.i64.wrap (2 * IntKind.i64.wrap ((n : Int).tdiv 4))))) = (x2 : Int) from hk_quarter1_ix (j := 2) (X := x2) ex2 (Nat.le_trans (Nat.le_of_lt X2.out) HN2.out) Hn2.out HSN.out.1)
          have w3x := Aside0.mk (show IntKind.i64.wrap ((q : Int) + IntKind.i64.wrap ((s : Int) * IntKind.i64.wrap ((i : Int) + IntKind.i64.wrap (3 * IntKind.i64.wrap ((n : Int).tdiv 4))))) = (x3 : Int) from hk_quarter1_ix (j := 3) (X := x3) ex3 (Nat.le_trans (Nat.le_of_lt X3.out) HN2.out) Hn2.out HSN.out.1)
          clear hj hqs hz' hz2 hz3 hcr hg1 hg2 hg3 hI4 ex0 ex1 ex2 ex3
          go_wp2_with fail
          have hd9 := Kd.R_lt HDz.out gd rfl
          have H9 := Aside0.mk (HQq.out.alloc hd9 #[.int .i64 (q : Int)] 3)
          have D9 := Aside0.mk (Kd.R_alloc HDz.out (.cells #[.int .i64 (q : Int)] 3))
          obtain ⟨b11, hb11⟩ : ∃ b, b = wr.heap.size := ⟨_, rfl⟩
          rw [← hb11] at H9 ⊢
          clear hd9 hb11 c1 c2
          generalize wr.alloc (.cells #[.int .i64 (q : Int)] 3) = V0 at H9 D9 ⊢
          have HV := Aside0.mk (Below.refl V0.heap.size V0)
          have cb3 := H9.out.cell (List.Mem.tail _ (List.Mem.tail _ (List.Mem.head _))) 0 _ rfl
          have cX1 := hk_blk_cell H9.out.hX 1 _ rfl
          have SV : ∀ V, Below V0.heap.size V0 V → V.cell? ⟨b3, 0, none⟩ = some (.pointer (some ⟨gp, 0, none⟩)) ∧ V.cell? ⟨gp, 1, none⟩ = some (.int .u64 u) := fun V hV => ⟨(H9.out.below hV).cell (List.Mem.tail _ (List.Mem.tail _ (List.Mem.head _))) 0 _ rfl, hk_blk_cell (H9.out.below hV).hX 1 _ rfl⟩
          have SV := Aside0.mk SV
          go_cut [13] from 58 to 126 (fun v13 wx => ∃ g : Nat, v13 = .pointer (some ⟨g, 0, none⟩) ∧ Aside0 (Below V0.heap.size V0 wx) ∧ Aside0 (wx.heap[g]? = some (.cells #[.int .u64 y0, .int .u64 y1, .int .u64 y2, .int .u64 y3] 107 (0, 0))) ∧ Aside0 (V0.heap.size ≤ g))
          case first =>
            go_region_held3 (fun w' => w'.cell? ⟨b3, 0, none⟩ = some (.pointer (some ⟨gp, 0, none⟩)) ∧ w'.cell? ⟨gp, 1, none⟩ = some (.int .u64 u)) (first | ((refine SV.out _ ?_; (with_reducible repeat (first | exact HV.out | apply below_alloc | apply below_drew | refine below_set ?_ HGe.out | refine below_set ?_ HV.out.size)); done)) | go_keep) (first | (go_at_call 84; (first | (with_reducible refine (hk_quarter1.of' w0 w V0 _ gp gs gd b3 b4 b5 b7 b11 P pw.length cp cS cD u src n s i q 0 x0 H9.out ?hv w0x.out X0.out).mono ?_) | (with_reducible refine (hk_quarter1.of' w0 w V0 _ gp gs gd b3 b4 b5 b7 b11 P pw.length cp cS cD u src n s i q 1 x1 H9.out ?hv w1x.out X1.out).mono ?_) | (with_reducible refine (hk_quarter1.of' w0 w V0 _ gp gs gd b3 b4 b5 b7 b11 P pw.length cp cS cD u src n s i q 2 x2 H9.out ?hv w2x.out X2.out).mono ?_) | (with_reducible refine (hk_quarter1.of' w0 w V0 _ gp gs gd b3 b4 b5 b7 b11 P pw.length cp cS cD u src n s i q 3 x3 H9.out ?hv w3x.out X3.out).mono ?_)); (case hv => (repeat (first | exact HV.out | apply below_alloc | apply below_drew))); rintro e v1 ⟨rfl, hb, hk⟩; (first | (have n3_ := Aside0.mk (hk _ _ HGk.out); clear HGk; have HGk := n3_; clear n3_) | (have HGk := Aside0.mk (hk _ _ (hk_new_blk _ _ _)); have HGe := Aside0.mk HV.out.size) | skip); have n0_ := Aside0.mk hb; clear HV hb hk; have HV := n0_; clear n0_) | (go_at_call 85; (with_reducible refine (kern4_Cross.of _ _ _ _ u y0 y1 y2 y3 V0 _ HCR.out ?hv).mono ?_); (case hv => (repeat (first | exact HV.out | apply below_alloc | apply below_drew))); rintro e v1 ⟨rfl, hb, hk⟩; (first | (have n3_ := Aside0.mk (hk _ _ HGk.out); clear HGk; have HGk := n3_; clear n3_) | (have HGk := Aside0.mk (hk _ _ (hk_new_blk _ _ _)); have HGe := Aside0.mk HV.out.size) | skip); (try (have hc0 := hk_blk_cell HGk.out 0 _ rfl; have hc1 := hk_blk_cell HGk.out 1 _ rfl; have hc2 := hk_blk_cell HGk.out 2 _ rfl; have hc3 := hk_blk_cell HGk.out 3 _ rfl; have hf0 := hk_blk_frozen HGk.out 0; have hf1 := hk_blk_frozen HGk.out 1; have hf2 := hk_blk_frozen HGk.out 2; have hf3 := hk_blk_frozen HGk.out 3)); have n0_ := Aside0.mk hb; clear HV hb hk; have HV := n0_; clear n0_))
            all_goals (go_wp2_with fail)
            all_goals go_meet
            all_goals
              case rel =>
                refine ⟨_, rfl, ⟨?_⟩, ⟨?_⟩, ⟨?_⟩⟩
                · (with_reducible repeat (first | exact HV.out | apply below_alloc | apply below_drew | refine below_set ?_ HGe.out | refine below_set ?_ HV.out.size))
                · first | (with_reducible exact hk_new_blk _ _ _) | (with_reducible exact hk_put4 _ _ _ _ HGk.out) | (with_reducible exact hk_put4 _ _ _ _ (hk_new_blk _ _ _))
                · first | (with_reducible exact HGe.out) | (with_reducible exact HV.out.size)
          case rest =>
            obtain ⟨g, rfl, HBc, HGc, HGe⟩ := hcut
            have hgd := Kd.R_lt D9.out gd rfl
            have hggd : g ≠ gd := by have := HGe.out; omega
            have H10 := Aside0.mk ((H9.out.below HBc.out).add HGc.out hggd)
            have D10 := Aside0.mk (Kd.R_below D9.out HBc.out)
            clear hgd hggd H9 D9 HV SV cX1 HBc HGc cb3
            have cq := H10.out.cell (List.Mem.tail _ (List.Mem.head _)) 0 _ rfl
            have ci := H10.out.cell (List.Mem.tail _ (List.Mem.tail _ (List.Mem.head _))) 0 _ rfl
            have cs := H10.out.cell (List.Mem.tail _ (List.Mem.tail _ (List.Mem.tail _ (List.Mem.tail _ (List.Mem.tail _ (List.Mem.head _)))))) 0 _ rfl
            go_wp2_with fail
            have h4s : s * 4 ≤ 1048576 := by have h5 : 4 * s ≤ n * s := Nat.mul_le_mul_right _ HSN.out.2; have := HN.out; have := HN2.out; omega
            obtain ⟨ta, hto⟩ : ∃ x, x = q + s * 4 * i := ⟨_, rfl⟩
            obtain ⟨t1, ht1⟩ : ∃ x, x = ta + s := ⟨_, rfl⟩
            obtain ⟨t2, ht2⟩ : ∃ x, x = ta + 2 * s := ⟨_, rfl⟩
            obtain ⟨t3, ht3⟩ : ∃ x, x = ta + 3 * s := ⟨_, rfl⟩
            obtain ⟨s2, hs2⟩ : ∃ x, x = 2 * s := ⟨_, rfl⟩
            obtain ⟨s3, hs3⟩ : ∃ x, x = 3 * s := ⟨_, rfl⟩
            have k0 : ta < src.length := by rw [hto]; have := T0.out; omega
            have k1' : t1 < src.length := by rw [ht1, hto]; have := T1.out; omega
            have k2' : t2 < src.length := by rw [ht2, hto]; exact T2.out
            have k3' : t3 < src.length := by rw [ht3, hto]; exact T3.out
            have hL := HN2.out
            rw [hk_to_ix hto (by omega) h4s]
            have hz4 := HZ3.out
            rw [← hto, ← ht1, ← ht2, ← ht3] at hz4
            have E1 := Aside0.mk (show IntKind.i64.wrap ((ta : Int) + (s : Int)) = (t1 : Int) by rw [← Int.natCast_add, ← ht1]; exact hk_wn (by omega))
            have E2a := Aside0.mk (show IntKind.i64.wrap (2 * (s : Int)) = (s2 : Int) by rw [hs2]; exact hk_wn (z := 2 * s) (by omega))
            have E3a := Aside0.mk (show IntKind.i64.wrap (3 * (s : Int)) = (s3 : Int) by rw [hs3]; exact hk_wn (z := 3 * s) (by omega))
            have E2 := Aside0.mk (show IntKind.i64.wrap ((ta : Int) + (s2 : Int)) = (t2 : Int) by rw [← Int.natCast_add, hs2, ← ht2]; exact hk_wn (by omega))
            have E3 := Aside0.mk (show IntKind.i64.wrap ((ta : Int) + (s3 : Int)) = (t3 : Int) by rw [← Int.natCast_add, hs3, ← ht3]; exact hk_wn (by omega))
            have HZ4 := Aside0.mk hz4
            have K0 := Aside0.mk k0
            have K1 := Aside0.mk k1'
            have K2 := Aside0.mk k2'
            have K3 := Aside0.mk k3'
            clear hto ht1 ht2 ht3 hs2 hs3 k0 k1' k2' k3' hL hz4 h4s cq ci cs
            have SQ := Aside0.mk (show ∀ V, hk_QE w0 w gp gs gd P pw.length cp cS cD u src [(g, .cells #[.int .u64 y0, .int .u64 y1, .int .u64 y2, .int .u64 y3] 107 (0, 0)), (b11, .cells #[.int .i64 (q : Int)] 3 (0, 0)), (b7, .cells #[.int .i64 (i : Int)] 3 (0, 0)), (b3, .cells #[.pointer (some ⟨gp, 0, none⟩)] 96 (0, 0)), (b4, .cells #[.int .i64 (n : Int)] 3 (0, 0)), (b5, .cells #[.int .i64 (s : Int)] 3 (0, 0))] V → V.cell? ⟨b3, 0, none⟩ = some (.pointer (some ⟨gp, 0, none⟩)) ∧ V.cell? ⟨gp, 3, none⟩ = some (.slice (some ⟨gd, 0, none⟩) src.length cD) ∧ V.cell? ⟨g, 0, none⟩ = some (.int .u64 y0) ∧ V.cell? ⟨b5, 0, none⟩ = some (.int .i64 (s : Int)) from fun V hV => ⟨hV.cell (List.Mem.tail _ (List.Mem.tail _ (List.Mem.tail _ (List.Mem.head _)))) 0 _ rfl, hk_blk_cell hV.hX 3 _ rfl, hV.cell (List.Mem.head _) 0 _ rfl, hV.cell (List.Mem.tail _ (List.Mem.tail _ (List.Mem.tail _ (List.Mem.tail _ (List.Mem.tail _ (List.Mem.head _)))))) 0 _ rfl⟩)
            obtain ⟨sq0, sq1, sq2, sq3⟩ := SQ.out _ H10.out
            obtain ⟨hx, hf⟩ := Kd.R_celln 0 D10.out (ta : Int) (by omega) (by have := K0.out; omega)
            rw [Int.toNat_natCast] at hx hf
            have p0 : ((ta : Int) < (src.length : Int)) = True := eq_true (by have := K0.out; omega)
            have p1 : (ta < src.length) = True := eq_true K0.out
            have HC := H10
            have DC := D10
            go_region_held3 (fun V => V.cell? ⟨b3, 0, none⟩ = some (.pointer (some ⟨gp, 0, none⟩)) ∧ V.cell? ⟨gp, 3, none⟩ = some (.slice (some ⟨gd, 0, none⟩) src.length cD) ∧ V.cell? ⟨g, 0, none⟩ = some (.int .u64 y0) ∧ V.cell? ⟨b5, 0, none⟩ = some (.int .i64 (s : Int))) (first | ((refine SQ.out _ ?_; (with_reducible repeat (first | exact HC.out | apply hk_QE.drew | apply hk_QE.set)); done)) | go_keep) (fail)
            have H11 := Aside0.mk ((HC.out.set ta (.int .u64 y0)).drew)
            have D11 := Aside0.mk (Kd.R_drew (Kd.R_putn DC.out (ta : Int) y0))
            rw [Int.toNat_natCast] at D11
            clear HC DC SQ hx hf p0 p1 sq0 sq1 sq2 sq3 H10 D10
            generalize (wc.setCell ⟨gd, ta, none⟩ (.int .u64 y0)).drew = V1 at H11 D11 ⊢
            go_wp2_with fail
            have SQ := Aside0.mk (show ∀ V, hk_QE w0 w gp gs gd P pw.length cp cS cD u src [(g, .cells #[.int .u64 y0, .int .u64 y1, .int .u64 y2, .int .u64 y3] 107 (0, 0)), (b11, .cells #[.int .i64 (q : Int)] 3 (0, 0)), (b7, .cells #[.int .i64 (i : Int)] 3 (0, 0)), (b3, .cells #[.pointer (some ⟨gp, 0, none⟩)] 96 (0, 0)), (b4, .cells #[.int .i64 (n : Int)] 3 (0, 0)), (b5, .cells #[.int .i64 (s : Int)] 3 (0, 0))] V → V.cell? ⟨b3, 0, none⟩ = some (.pointer (some ⟨gp, 0, none⟩)) ∧ V.cell? ⟨gp, 3, none⟩ = some (.slice (some ⟨gd, 0, none⟩) src.length cD) ∧ V.cell? ⟨g, 1, none⟩ = some (.int .u64 y1) ∧ V.cell? ⟨b5, 0, none⟩ = some (.int .i64 (s : Int)) from fun V hV => ⟨hV.cell (List.Mem.tail _ (List.Mem.tail _ (List.Mem.tail _ (List.Mem.head _)))) 0 _ rfl, hk_blk_cell hV.hX 3 _ rfl, hV.cell (List.Mem.head _) 1 _ rfl, hV.cell (List.Mem.tail _ (List.Mem.tail _ (List.Mem.tail _ (List.Mem.tail _ (List.Mem.tail _ (List.Mem.head _)))))) 0 _ rfl⟩)
            obtain ⟨sq0, sq1, sq2, sq3⟩ := SQ.out _ H11.out
            obtain ⟨hx, hf⟩ := Kd.R_celln 0 D11.out (t1 : Int) (by omega) (by have := K1.out; omega)
            rw [Int.toNat_natCast] at hx hf
            have p0 : ((t1 : Int) < (src.length : Int)) = True := eq_true (by have := K1.out; omega)
            have p1 : (t1 < src.length) = True := eq_true K1.out
            have e1 := E1.out
            have HC := H11
            have DC := D11
            go_region_held3 (fun V => V.cell? ⟨b3, 0, none⟩ = some (.pointer (some ⟨gp, 0, none⟩)) ∧ V.cell? ⟨gp, 3, none⟩ = some (.slice (some ⟨gd, 0, none⟩) src.length cD) ∧ V.cell? ⟨g, 1, none⟩ = some (.int .u64 y1) ∧ V.cell? ⟨b5, 0, none⟩ = some (.int .i64 (s : Int))) (first | ((refine SQ.out _ ?_; (with_reducible repeat (first | exact HC.out | apply hk_QE.drew | apply hk_QE.set)); done)) | go_keep) (first | (go_at_call 28; (with_reducible refine (gold_Mul.calls y1 (rd pw (m1 : Int)) z1 _ HG1.out).mono ?_); rintro e v1 ⟨rfl, hb1⟩; have n0_ := Aside0.mk (hk_QE.below (by (with_reducible repeat (first | exact HC.out | apply hk_QE.drew))) hb1); have n1_ := Aside0.mk (Kd.R_below (by (with_reducible repeat (first | exact DC.out | apply Kd.R_drew))) hb1); clear HC DC hx hf hb1; have HC := n0_; have DC := n1_; clear n0_ n1_; obtain ⟨hx, hf⟩ := Kd.R_celln 0 DC.out (t1 : Int) (by omega) (by have := K1.out; omega); rw [Int.toNat_natCast] at hx hf))
            have H12 := Aside0.mk (HC.out.set t1 (.int .u64 z1))
            have D12 := Aside0.mk (Kd.R_putn DC.out (t1 : Int) z1)
            rw [Int.toNat_natCast] at D12
            clear HC DC SQ hx hf p0 p1 sq0 sq1 sq2 sq3 H11 D11
            clear e1
            generalize v1.setCell ⟨gd, t1, none⟩ (.int .u64 z1) = V2 at H12 D12 ⊢
            go_wp2_with fail
            have SQ := Aside0.mk (show ∀ V, hk_QE w0 w gp gs gd P pw.length cp cS cD u src [(g, .cells #[.int .u64 y0, .int .u64 y1, .int .u64 y2, .int .u64 y3] 107 (0, 0)), (b11, .cells #[.int .i64 (q : Int)] 3 (0, 0)), (b7, .cells #[.int .i64 (i : Int)] 3 (0, 0)), (b3, .cells #[.pointer (some ⟨gp, 0, none⟩)] 96 (0, 0)), (b4, .cells #[.int .i64 (n : Int)] 3 (0, 0)), (b5, .cells #[.int .i64 (s : Int)] 3 (0, 0))] V → V.cell? ⟨b3, 0, none⟩ = some (.pointer (some ⟨gp, 0, none⟩)) ∧ V.cell? ⟨gp, 3, none⟩ = some (.slice (some ⟨gd, 0, none⟩) src.length cD) ∧ V.cell? ⟨g, 2, none⟩ = some (.int .u64 y2) ∧ V.cell? ⟨b5, 0, none⟩ = some (.int .i64 (s : Int)) from fun V hV => ⟨hV.cell (List.Mem.tail _ (List.Mem.tail _ (List.Mem.tail _ (List.Mem.head _)))) 0 _ rfl, hk_blk_cell hV.hX 3 _ rfl, hV.cell (List.Mem.head _) 2 _ rfl, hV.cell (List.Mem.tail _ (List.Mem.tail _ (List.Mem.tail _ (List.Mem.tail _ (List.Mem.tail _ (List.Mem.head _)))))) 0 _ rfl⟩)
            obtain ⟨sq0, sq1, sq2, sq3⟩ := SQ.out _ H12.out
            obtain ⟨hx, hf⟩ := Kd.R_celln 0 D12.out (t2 : Int) (by omega) (by have := K2.out; omega)
            rw [Int.toNat_natCast] at hx hf
            have p0 : ((t2 : Int) < (src.length : Int)) = True := eq_true (by have := K2.out; omega)
            have p1 : (t2 < src.length) = True := eq_true K2.out
            have e1 := E2a.out
            have e2 := E2.out
            have HC := H12
            have DC := D12
            go_region_held3 (fun V => V.cell? ⟨b3, 0, none⟩ = some (.pointer (some ⟨gp, 0, none⟩)) ∧ V.cell? ⟨gp, 3, none⟩ = some (.slice (some ⟨gd, 0, none⟩) src.length cD) ∧ V.cell? ⟨g, 2, none⟩ = some (.int .u64 y2) ∧ V.cell? ⟨b5, 0, none⟩ = some (.int .i64 (s : Int))) (first | ((refine SQ.out _ ?_; (with_reducible repeat (first | exact HC.out | apply hk_QE.drew | apply hk_QE.set)); done)) | go_keep) (first | (go_at_call 28; (with_reducible refine (gold_Mul.calls y2 (rd pw (m2 : Int)) z2 _ HG2.out).mono ?_); rintro e v2 ⟨rfl, hb1⟩; have n0_ := Aside0.mk (hk_QE.below (by (with_reducible repeat (first | exact HC.out | apply hk_QE.drew))) hb1); have n1_ := Aside0.mk (Kd.R_below (by (with_reducible repeat (first | exact DC.out | apply Kd.R_drew))) hb1); clear HC DC hx hf hb1; have HC := n0_; have DC := n1_; clear n0_ n1_; obtain ⟨hx, hf⟩ := Kd.R_celln 0 DC.out (t2 : Int) (by omega) (by have := K2.out; omega); rw [Int.toNat_natCast] at hx hf))
            have H13 := Aside0.mk (HC.out.set t2 (.int .u64 z2))
            have D13 := Aside0.mk (Kd.R_putn DC.out (t2 : Int) z2)
            rw [Int.toNat_natCast] at D13
            clear HC DC SQ hx hf p0 p1 sq0 sq1 sq2 sq3 H12 D12
            clear e1 e2
            generalize v2.setCell ⟨gd, t2, none⟩ (.int .u64 z2) = V3 at H13 D13 ⊢
            go_wp2_with fail
            have SQ := Aside0.mk (show ∀ V, hk_QE w0 w gp gs gd P pw.length cp cS cD u src [(g, .cells #[.int .u64 y0, .int .u64 y1, .int .u64 y2, .int .u64 y3] 107 (0, 0)), (b11, .cells #[.int .i64 (q : Int)] 3 (0, 0)), (b7, .cells #[.int .i64 (i : Int)] 3 (0, 0)), (b3, .cells #[.pointer (some ⟨gp, 0, none⟩)] 96 (0, 0)), (b4, .cells #[.int .i64 (n : Int)] 3 (0, 0)), (b5, .cells #[.int .i64 (s : Int)] 3 (0, 0))] V → V.cell? ⟨b3, 0, none⟩ = some (.pointer (some ⟨gp, 0, none⟩)) ∧ V.cell? ⟨gp, 3, none⟩ = some (.slice (some ⟨gd, 0, none⟩) src.length cD) ∧ V.cell? ⟨g, 3, none⟩ = some (.int .u64 y3) ∧ V.cell? ⟨b5, 0, none⟩ = some (.int .i64 (s : Int)) from fun V hV => ⟨hV.cell (List.Mem.tail _ (List.Mem.tail _ (List.Mem.tail _ (List.Mem.head _)))) 0 _ rfl, hk_blk_cell hV.hX 3 _ rfl, hV.cell (List.Mem.head _) 3 _ rfl, hV.cell (List.Mem.tail _ (List.Mem.tail _ (List.Mem.tail _ (List.Mem.tail _ (List.Mem.tail _ (List.Mem.head _)))))) 0 _ rfl⟩)
            obtain ⟨sq0, sq1, sq2, sq3⟩ := SQ.out _ H13.out
            obtain ⟨hx, hf⟩ := Kd.R_celln 0 D13.out (t3 : Int) (by omega) (by have := K3.out; omega)
            rw [Int.toNat_natCast] at hx hf
            have p0 : ((t3 : Int) < (src.length : Int)) = True := eq_true (by have := K3.out; omega)
            have p1 : (t3 < src.length) = True := eq_true K3.out
            have e1 := E3a.out
            have e2 := E3.out
            have HC := H13
            have DC := D13
            go_region_held3 (fun V => V.cell? ⟨b3, 0, none⟩ = some (.pointer (some ⟨gp, 0, none⟩)) ∧ V.cell? ⟨gp, 3, none⟩ = some (.slice (some ⟨gd, 0, none⟩) src.length cD) ∧ V.cell? ⟨g, 3, none⟩ = some (.int .u64 y3) ∧ V.cell? ⟨b5, 0, none⟩ = some (.int .i64 (s : Int))) (first | ((refine SQ.out _ ?_; (with_reducible repeat (first | exact HC.out | apply hk_QE.drew | apply hk_QE.set)); done)) | go_keep) (first | (go_at_call 28; (with_reducible refine (gold_Mul.calls y3 (rd pw (m3 : Int)) z3 _ HG3.out).mono ?_); rintro e v3 ⟨rfl, hb1⟩; have n0_ := Aside0.mk (hk_QE.below (by (with_reducible repeat (first | exact HC.out | apply hk_QE.drew))) hb1); have n1_ := Aside0.mk (Kd.R_below (by (with_reducible repeat (first | exact DC.out | apply Kd.R_drew))) hb1); clear HC DC hx hf hb1; have HC := n0_; have DC := n1_; clear n0_ n1_; obtain ⟨hx, hf⟩ := Kd.R_celln 0 DC.out (t3 : Int) (by omega) (by have := K3.out; omega); rw [Int.toNat_natCast] at hx hf))
            have H14 := Aside0.mk (HC.out.set t3 (.int .u64 z3))
            have D14 := Aside0.mk (Kd.R_putn DC.out (t3 : Int) z3)
            rw [Int.toNat_natCast] at D14
            clear HC DC SQ hx hf p0 p1 sq0 sq1 sq2 sq3 H13 D13
            clear e1 e2
            generalize v3.setCell ⟨gd, t3, none⟩ (.int .u64 z3) = V4 at H14 D14 ⊢
            go_wp2_with fail
            rw [HZ4.out] at D14
            go_roundg k2
            case measure => omega
            case rel => exact ⟨q + 1, z', (by rw [show wrap64 ((q : Int) + 1) = ((q + 1 : Nat) : Int) by have := HJ.out; have h5 : s ≤ n * s := Nat.le_mul_of_pos_left _ (by have := HSN.out.2; omega); have := HN.out; have := HN2.out; unfold wrap64; omega]), ⟨by have := HJ.out; omega⟩, HZ', ⟨H14.out.sub (fun p hp => List.mem_cons_of_mem _ (List.mem_cons_of_mem _ hp))⟩, D14⟩

/-! ### kern4_pass_half: function 81 (by hand) -/
/-- Two words of a last pass. -/
def hk_hstep (src : List Int) (s q : Nat) (d : List Int) : Option (List Int) :=
  (gold_Add.f (rd src (q : Int)) (rd src ((q + s : Nat) : Int))).bind fun x => (gold_Sub.f (rd src (q : Int)) (rd src ((q + s : Nat) : Int))).bind fun y => some ((d.set q x).set (q + s) y)
def hk_hin (src : List Int) (s : Nat) (d : List Int) : Nat → Option (List Int)
  | 0 => some d
  | q + 1 => (hk_hin src s d q).bind (hk_hstep src s q)
theorem hk_hin_down {src : List Int} {s : Nat} {d : List Int} : ∀ {j m : Nat} {r : List Int}, hk_hin src s d (j + m) = some r → ∃ x, hk_hin src s d j = some x
  | j, 0, r, h => ⟨r, h⟩
  | j, m + 1, r, h => by
    unfold hk_hin at h
    obtain ⟨x, hx, _⟩ := Option.bind_eq_some_iff.1 h
    exact hk_hin_down (m := m) hx
set_option maxHeartbeats 40000000 in
set_option maxRecDepth 100000 in
theorem kern4_half.calls (s : Nat) (u : Int) (gp gs gd : Nat) (P : Option Addr) (cp cS cD np : Nat) (src d r : List Int) (w0 w : World) (hB : Below w0.heap.size w0 w)
    (hX : w.heap[gp]? = some (.cells #[.slice P np cp, .int .u64 u, .slice (some ⟨gs, 0, none⟩) src.length cS, .slice (some ⟨gd, 0, none⟩) src.length cD] 98 (0, 0)))
    (hSr : Kd.R (Kd.int .u64) 29 w w0.heap.size (fun j => j = gs) (.slice (some ⟨gs, 0, none⟩) src.length cS) src) (hDr : Kd.R (Kd.int .u64) 29 w w0.heap.size (fun j => j = gd) (.slice (some ⟨gd, 0, none⟩) src.length cD) d)
    (hgp : w0.heap.size ≤ gp) (hne1 : gs ≠ gp) (hne2 : gd ≠ gp) (hne3 : gs ≠ gd) (hs : 0 < s) (hN : src.length = 2 * s) (hN2 : src.length ≤ 1048576) (h : hk_hin src s d s = some r) :
    Calls Try.prog 81 #[.pointer (some ⟨gp, 0, none⟩), .int .i64 s] w fun e w' => e = .returned (.tuple #[]) ∧ Below w0.heap.size w0 w' ∧ Kept w w' (fun j => j = gp ∨ j = gd) ∧
      w'.heap[gp]? = some (.cells #[.slice P np cp, .int .u64 u, .slice (some ⟨gd, 0, none⟩) src.length cD, .slice (some ⟨gs, 0, none⟩) src.length cS] 98 (0, 0)) ∧
      Kd.R (Kd.int .u64) 29 w' w0.heap.size (fun j => j = gd) (.slice (some ⟨gd, 0, none⟩) src.length cD) r := by
  have hgd0 : w0.heap.size ≤ gd := by
    obtain ⟨g', c', e', hb', _⟩ := Kd.R_form hDr (by
      have := Kd.R_reads' hDr
      rw [← this.1, hN]; omega)
    injection e' with e1; injection e1 with e1; injection e1 with e1; rw [e1]; exact hb'
  have Q0 := Aside0.mk (show hk_QE w0 w gp gs gd P np cp cS cD u src [] w from ⟨hB, Kept.refl _ _, hX, hSr, fun p hp => (by cases hp), hgd0, Ne.symm hne2, hne3⟩)
  have D0 := Aside0.mk hDr
  have HGP := Aside0.mk hgp
  have HN := Aside0.mk hN
  have HN2 := Aside0.mk hN2
  have HS := Aside0.mk hs
  have HH := Aside0.mk h
  clear hB hX hSr hDr hgp hne1 hne2 hne3 hs hN hN2 h hgd0
  go_enter Try.func81, Try.ntmps81
  go_wp2_with fail
  go_loopg [8] s (fun kq v8 w' => ∃ (q : Nat) (z : List Int), v8 = .int .i64 (q : Int) ∧ Aside0 (kq + q = s) ∧ Aside0 (hk_hin src s d q = some z) ∧ Aside0 (hk_QE w0 w gp gs gd P np cp cS cD u src [] w') ∧ Aside0 (Kd.R (Kd.int .u64) 29 w' w0.heap.size (fun j => j = gd) (.slice (some ⟨gd, 0, none⟩) src.length cD) z))
  case atStart => exact ⟨0, d, by simp, ⟨by omega⟩, ⟨rfl⟩, Q0, D0⟩
  case round =>
    obtain ⟨q, z, rfl, HJ, Hz, HQ, HDz⟩ := hrel
    clear Q0 D0
    cases gk with
    | zero =>
      have hj := HJ.out
      have c1 : decide ((q : Int) < (s : Int)) = false := decide_eq_false (by omega)
      have c2 : (q < s) = False := eq_false (by omega)
      have e : q = s := by omega
      rw [e] at Hz
      have er : z = r := by have h1 := Hz.out; rw [HH.out] at h1; injection h1 with h1; exact h1.symm
      rw [er] at HDz
      clear hj e er
      go_wp2_with fail
      have cX0 := hk_blk_cell HQ.out.hX 0 _ rfl
      have cX2 := hk_blk_cell HQ.out.hX 2 _ rfl
      have cX3 := hk_blk_cell HQ.out.hX 3 _ rfl
      have fX2 := hk_blk_frozen HQ.out.hX 2
      have fX3 := hk_blk_frozen HQ.out.hX 3
      go_region
      all_goals
        obtain ⟨q1, q2, q3, q4⟩ := HQ.out.swap HGP.out HDz.out
        go_end0
        exact ⟨rfl, q1, q2, q3, q4⟩
    | succ k2 =>
      have hj := HJ.out
      have hqs : q < s := by omega
      have c1 : decide ((q : Int) < (s : Int)) = true := decide_eq_true (by omega)
      have c2 : (q < s) = True := eq_true hqs
      have hdz : ∃ z', hk_hin src s d (q + 1) = some z' := hk_hin_down (m := k2) (by rw [show q + 1 + k2 = s by omega]; exact HH.out)
      obtain ⟨z', hz'⟩ := hdz
      have hz2 := hz'
      unfold hk_hin at hz2
      rw [Hz.out, Option.bind_some] at hz2
      unfold hk_hstep at hz2
      obtain ⟨k, hk⟩ : ∃ x, x = q + s := ⟨_, rfl⟩
      rw [← hk] at hz2
      obtain ⟨x, hg1, hz2⟩ := Option.bind_eq_some_iff.1 hz2
      obtain ⟨y, hg2, hz2⟩ := Option.bind_eq_some_iff.1 hz2
      have hz3 := Option.some.inj hz2
      have HZ' := Aside0.mk hz'
      have HG1 := Aside0.mk hg1
      have HG2 := Aside0.mk hg2
      have HZ3 := Aside0.mk hz3
      have hN := HN.out
      have hN2 := HN2.out
      have hs := HS.out
      have K0 := Aside0.mk (show q < src.length by omega)
      have K1 := Aside0.mk (show k < src.length by omega)
      have KN := Aside0.mk (show q ≠ k by omega)
      have E1 : IntKind.i64.wrap ((q : Int) + (s : Int)) = (k : Int) := by rw [← Int.natCast_add, ← hk]; exact hk_wn (by omega)
      clear hj hqs hz' hz2 hz3 hg1 hg2 hN hN2 hs hk
      go_wp2_with fail
      have cX2 := hk_blk_cell HQ.out.hX 2 _ rfl
      obtain ⟨ad, ea, hx1⟩ := Kd.at_int (Kd.R_reads' HQ.out.hS).2.2 (q : Int) (by omega) (by have := K0.out; omega)
      obtain ⟨ad2, ea2, hx2⟩ := Kd.at_int (Kd.R_reads' HQ.out.hS).2.2 (k : Int) (by omega) (by have := K1.out; omega)
      cases ea
      cases ea2
      rw [Int.toNat_natCast] at hx1 hx2
      replace hx1 : wr.cell? ⟨gs, q, none⟩ = some (.int .u64 (rd src (q : Int))) := by by_cases c : q = 0 <;> simpa [Addr.add, c] using hx1
      replace hx2 : wr.cell? ⟨gs, k, none⟩ = some (.int .u64 (rd src (k : Int))) := by by_cases c : k = 0 <;> simpa [Addr.add, c] using hx2
      have p0 : ((q : Int) < (src.length : Int)) = True := eq_true (by have := K0.out; omega)
      have p1 : ((k : Int) < (src.length : Int)) = True := eq_true (by have := K1.out; omega)
      have p0' : (q < src.length) = True := eq_true K0.out
      have p1' : (k < src.length) = True := eq_true K1.out
      go_quiet (skip)
      clear cX2 hx1 hx2
      have H1 := Aside0.mk (HQ.out.drewN nq)
      have D1 := Aside0.mk (Kd.R_drewN HDz.out nq)
      generalize wr.drewN nq = W1 at H1 D1 ⊢
      go_wp2_with fail
      have cX3 := hk_blk_cell H1.out.hX 3 _ rfl
      have SQ := Aside0.mk (show ∀ V, hk_QE w0 w gp gs gd P np cp cS cD u src [] V → V.cell? ⟨gp, 3, none⟩ = some (.slice (some ⟨gd, 0, none⟩) src.length cD) from fun V hV => hk_blk_cell hV.hX 3 _ rfl)
      have HC := H1
      have DC := D1
      clear H1 D1
      go_region_held3 (fun V => V.cell? ⟨gp, 3, none⟩ = some (.slice (some ⟨gd, 0, none⟩) src.length cD)) (first | (exact cX3) | ((refine SQ.out _ ?_; (with_reducible repeat (first | exact HC.out | apply hk_QE.drew | apply hk_QE.set)); done)) | go_keep)
        (first | (go_at_call 29; (with_reducible refine (gold_Add.calls (rd src (q : Int)) (rd src (k : Int)) x _ HG1.out).mono ?_); rintro e v1 ⟨rfl, hb1⟩; have n0_ := Aside0.mk (hk_QE.below (by (with_reducible repeat (first | exact HC.out | apply hk_QE.drew))) hb1); have n1_ := Aside0.mk (Kd.R_below (by (with_reducible repeat (first | exact DC.out | apply Kd.R_drew))) hb1); clear HC DC hb1; have HC := n0_; have DC := n1_; clear n0_ n1_) | (go_at_call 86; (with_reducible refine (gold_Sub.calls (rd src (q : Int)) (rd src (k : Int)) y _ HG2.out).mono ?_); rintro e v2 ⟨rfl, hb1⟩; have n0_ := Aside0.mk (hk_QE.below (by (with_reducible repeat (first | exact HC.out | apply hk_QE.drew))) hb1); have n1_ := Aside0.mk (Kd.R_below (by (with_reducible repeat (first | exact DC.out | apply Kd.R_drew))) hb1); clear HC DC hb1; have HC := n0_; have DC := n1_; clear n0_ n1_; obtain ⟨hx, hf⟩ := Kd.R_celln 0 DC.out (q : Int) (by omega) (by have := K0.out; omega); have DP := Kd.R_putn DC.out (q : Int) x; obtain ⟨hx2, hf2⟩ := Kd.R_celln 0 DP (k : Int) (by omega) (by have := K1.out; omega); have DP := Aside0.mk DP; obtain ⟨hx3, hf3⟩ := Kd.R_celln 0 DC.out (k : Int) (by omega) (by have := K1.out; omega); rw [Int.toNat_natCast] at hx hf hx2 hf2 hx3 hf3 DP; have kn := KN.out))
      have H2 := Aside0.mk ((HC.out.set q (.int .u64 x)).set k (.int .u64 y))
      have D2 := Aside0.mk (Kd.R_putn DP.out (k : Int) y)
      rw [Int.toNat_natCast, HZ3.out] at D2
      clear HC DC DP hx hf hx2 hf2 hx3 hf3 kn cX3 SQ p0 p1 p0' p1' c1 c2 E1
      generalize (v2.setCell ⟨gd, q, none⟩ (.int .u64 x)).setCell ⟨gd, k, none⟩ (.int .u64 y) = W2 at H2 D2 ⊢
      go_wp2_with fail
      go_roundg k2
      case measure => omega
      case rel => exact ⟨q + 1, z', (by rw [show wrap64 ((q : Int) + 1) = ((q + 1 : Nat) : Int) by have := HJ.out; have := HN.out; have := HN2.out; unfold wrap64; omega]), ⟨by have := HJ.out; omega⟩, HZ', H2, D2⟩

end Go.Proofs.Ytkgakohgbbapaaa.PTreeThrough
