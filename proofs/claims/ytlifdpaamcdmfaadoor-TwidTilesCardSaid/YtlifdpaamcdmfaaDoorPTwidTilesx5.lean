-- Written for this claim by wip/gen/mk.sh, this session's own driver over the kit's print
import Derived.Test.YtlifdpaamcdmfaaDoorPTwidTilesx0
import Derived.Test.YtlifdpaamcdmfaaDoorPTwidTilesx1
import Derived.Test.YtlifdpaamcdmfaaDoorPTwidTilesx2
import Derived.Test.YtlifdpaamcdmfaaDoorPTwidTilesx4
namespace Go.Proofs.YtlifdpaamcdmfaaDoor.PTwidTiles
open Go.RowKit Go.Proofs.YtlifdpaamcdmfaaDoorW.PrintWords Go.Proofs.YtlifdpaamcdmfaaDoorW.PrintLast Go.Proofs.YtlifdpaamcdmfaaDoorW.PrintMore
attribute [local go_sem] max2_int min2_int max_two min_two max_three min_three max_four min_four   -- for this text's walks alone
set_option linter.unusedVariables false
set_option linter.unusedSimpArgs false

/-- make([]T, 0, n): an empty row with room for n. -/
theorem R_make0 {P : Program} {ops : Array Oper} {rest : List Oper} {o : Oper} {a : Act} {Q : Exit → Act → World → Prop} {α : Type} (d : Kd α) {w0 W : World} (base e : Nat) (hgd : o.guard = none) {N : Tmp} (hd : o.dst = some N) (t : TypeId) (x y : Operand) (ho : o.op = .makeSlice t x y) (n : Int) (hx : a.eval x = .int .i64 0) (hy : a.eval y = .int .i64 n)
    (ht : P.underlying t = some (.slice e)) (z : Value) (bytes : Nat) (hinfo : (P.info? e).map (fun i => (i.zero, i.size, i.bytes)) = some (some z, d.sz, bytes)) (hz : z.cells.size = d.sz) (hs0 : 0 < d.sz) (hb0 : 0 < bytes)
    {ok : Nat → Prop} (hfresh : ok W.heap.size) (h0 : 0 ≤ n) (hl : n.toNat * bytes ≤ 281474976710656) (HB : Below base w0 W) (hbase : base ≤ W.heap.size)
    (h : ∀ v1 w1, d.R e w1 base ok v1 ([] : List α) → Below base w0 w1 → W.grownBy w1 none → (∃ b, v1.ownBlock = some b ∧ W.heap.size ≤ b) → wpList P ops Q rest (a.put o.dst v1) w1) : wpList P ops Q (o :: rest) a W := by
  obtain ⟨m, rfl⟩ := Int.eq_ofNat_of_zero_le h0
  simp only [Int.toNat_natCast] at hl
  obtain ⟨i0, hi, hzz⟩ := Option.map_eq_some_iff.1 hinfo
  simp only [Prod.mk.injEq] at hzz
  obtain ⟨hz0, hz1, hz2⟩ := hzz
  have hm : m ≤ 281474976710656 := Nat.le_trans (Nat.le_mul_of_pos_right _ hb0) hl
  have hr := run_make (P := P) W t e i0 z ht hi hz0 .i64 .i64 (0 : Int) (m : Int) (by omega) (by omega)
    (by
      have h3 : ((i0.bytes * m : Nat) : Int) ≤ 281474976710656 := by rw [hz2, Nat.mul_comm]; omega
      rwa [Int.natCast_mul] at h3) (by omega)
  simp only [Int.toNat_natCast, Int.toNat_zero] at hr
  rw [hz1] at hr
  refine Kd.event_run hgd (v := .slice (some ⟨W.heap.size, 0, none⟩) 0 m) (w1 := W.alloc (.cells (madeCells z.cells (m * d.sz)) e)) (by simp [execOp, ho, hx, hy, hr]) (h _ _ ⟨fun k hk => ?_, [], ?_, Reps.none _ _⟩ (HB.alloc hbase _) (World.grownBy_alloc W _ none) ⟨W.heap.size, by simp [Value.ownBlock], Nat.le_refl _⟩)
  · have : W.heap.size = k := by simpa [Value.ownBlock] using hk
    subst this
    exact hfresh
  · have h2 := World.ownsRow_lit (base := base) (e := e) (size := d.sz) W (madeCells z.cells (m * d.sz)) m hbase (by simp [maxLen]; omega) (by simp [size_madeCells])
    have h3 := own_take (m := 0) h2 (Nat.zero_le _)
    simpa using h3
/-! ### twid_Tile: function 25 -/
mutual
def twid_Tile.j0 : Nat → List Int → Int → Bool → Int → Int → Int → Int → Option (List Int × Int)
  | 0, _, _, _, _, _, _, _ => none
  | k + 1, x0, x10, x28, x213000, x213001, x213002, x213003 => if x28 = true then (some (([] : List Int), 19)) else ((twid_reaches.f x213000 x213001 x213002 x213003).bind fun t216 => (if t216 = true then (if 0 ≤ (x0.length : Int) then (if ((x0.length : Int) : Int).toNat ≤ 35184372088832 then (twid_Tile.l0 k x0 x10 (([] : List Int)) x213000 0 x213000 x213001 x213002 x213003) else (none)) else (none)) else (some (([] : List Int), 2))))
def twid_Tile.l0 : Nat → List Int → Int → List Int → Int → Int → Int → Int → Int → Int → Option (List Int × Int)
  | 0, _, _, _, _, _, _, _, _, _ => none
  | k + 1, x0, x10, x12, x54, x55, x213000, x213001, x213002, x213003 => if x55 < x54 then ((gold_Pow.f k x10 (IntKind.u64.wrap (wrap64 (x213002 + x55)))).bind fun t220 => ((gold_Pow.f k t220 (IntKind.u64.wrap (x213003))).bind fun t221 => (if 0 ≤ (wrap64 (x55 * x213001)) then (if (wrap64 (x55 * x213001)) ≤ (wrap64 ((wrap64 (x55 + 1)) * x213001)) then (if (wrap64 ((wrap64 (x55 + 1)) * x213001)) ≤ (x0.length : Int) then (twid_Tile.l1 k x0 x10 x12 t220 t221 x54 x55 ((x0.take ((wrap64 ((wrap64 (x55 + 1)) * x213001)) : Int).toNat).drop ((wrap64 (x55 * x213001)) : Int).toNat) (((x0.take ((wrap64 ((wrap64 (x55 + 1)) * x213001)) : Int).toNat).drop ((wrap64 (x55 * x213001)) : Int).toNat).length : Int) 0 x213000 x213001 x213002 x213003) else (none)) else (none)) else (none)))) else (some (x12, 0))
def twid_Tile.l1 : Nat → List Int → Int → List Int → Int → Int → Int → Int → List Int → Int → Int → Int → Int → Int → Int → Option (List Int × Int)
  | 0, _, _, _, _, _, _, _, _, _, _, _, _, _, _ => none
  | k + 1, x0, x10, x12, x14, x15, x54, x55, x82, x83, x84, x213000, x213001, x213002, x213003 => if x84 < x83 then (if 0 ≤ x84 then (if x84 < (x82.length : Int) then ((gold_Mul.f (rd x82 x84) x15).bind fun t224 => (if x12.length < 17592186044416 then ((gold_Mul.f x15 x14).bind fun t228 => (twid_Tile.l1 k x0 x10 (x12 ++ [t224]) x14 t228 x54 x55 x82 x83 (wrap64 (x84 + 1)) x213000 x213001 x213002 x213003)) else (none))) else (none)) else (none)) else (twid_Tile.l0 k x0 x10 x12 x54 (wrap64 (x55 + 1)) x213000 x213001 x213002 x213003)
end
def twid_Tile.f (k : Nat) (l0 : List Int) (a1_0 : Int) (a1_1 : Int) (a1_2 : Int) (a1_3 : Int) (a2 : Int) (a3 : Int) : Option (List Int × Int) := (twid_Root.f k a2 a3).bind fun bt213 => (if bt213.2 = 0 then ((shape_Good.f a1_0 a1_1).bind fun t215 => (if t215 = true then (twid_Tile.j0 k l0 bt213.1 ((l0.length : Int) != (wrap64 (a1_0 * a1_1))) a1_0 a1_1 a1_2 a1_3) else (twid_Tile.j0 k l0 bt213.1 true a1_0 a1_1 a1_2 a1_3))) else (some (([] : List Int), bt213.2)))
theorem twid_Tile.mono_l : ∀ k, (∀ y0 y1 y2 y3 y4 y5 y6, LeO (twid_Tile.j0 k y0 y1 y2 y3 y4 y5 y6) (twid_Tile.j0 (k + 1) y0 y1 y2 y3 y4 y5 y6)) ∧ (∀ y0 y1 y2 y3 y4 y5 y6 y7 y8, LeO (twid_Tile.l0 k y0 y1 y2 y3 y4 y5 y6 y7 y8) (twid_Tile.l0 (k + 1) y0 y1 y2 y3 y4 y5 y6 y7 y8)) ∧ (∀ y0 y1 y2 y3 y4 y5 y6 y7 y8 y9 y10 y11 y12 y13, LeO (twid_Tile.l1 k y0 y1 y2 y3 y4 y5 y6 y7 y8 y9 y10 y11 y12 y13) (twid_Tile.l1 (k + 1) y0 y1 y2 y3 y4 y5 y6 y7 y8 y9 y10 y11 y12 y13))
  | 0 => ⟨fun _ _ _ _ _ _ _ r h => by simp [twid_Tile.j0] at h, fun _ _ _ _ _ _ _ _ _ r h => by simp [twid_Tile.l0] at h, fun _ _ _ _ _ _ _ _ _ _ _ _ _ _ r h => by simp [twid_Tile.l1] at h⟩
  | k + 1 => by
    obtain ⟨ih0, ih1, ih2⟩ := twid_Tile.mono_l k
    refine ⟨?_, ?_, ?_⟩
    · intro y0 y1 y2 y3 y4 y5 y6
      unfold twid_Tile.j0
      repeat' first
      | (with_reducible exact ih0 _ _ _ _ _ _ _)
      | (with_reducible exact ih1 _ _ _ _ _ _ _ _ _)
      | (with_reducible exact ih2 _ _ _ _ _ _ _ _ _ _ _ _ _ _)
      | (with_reducible exact gold_Pow.mono _ _ _)
      | (with_reducible exact twid_Root.mono _ _ _)
      | (with_reducible exact LeO.refl _)
      | (with_reducible exact LeO.none _)
      | (with_reducible refine LeO.ite ?_ ?_)
      | (with_reducible refine LeO.bind ?_ (fun _ => ?_))
      | exact ih0 _ _ _ _ _ _ _
      | exact ih1 _ _ _ _ _ _ _ _ _
      | exact ih2 _ _ _ _ _ _ _ _ _ _ _ _ _ _
      | exact gold_Pow.mono _ _ _
      | exact twid_Root.mono _ _ _
      | exact LeO.none _
      | refine LeO.ite ?_ ?_
      | refine LeO.bind ?_ (fun _ => ?_)
    · intro y0 y1 y2 y3 y4 y5 y6 y7 y8
      unfold twid_Tile.l0
      repeat' first
      | (with_reducible exact ih0 _ _ _ _ _ _ _)
      | (with_reducible exact ih1 _ _ _ _ _ _ _ _ _)
      | (with_reducible exact ih2 _ _ _ _ _ _ _ _ _ _ _ _ _ _)
      | (with_reducible exact gold_Pow.mono _ _ _)
      | (with_reducible exact twid_Root.mono _ _ _)
      | (with_reducible exact LeO.refl _)
      | (with_reducible exact LeO.none _)
      | (with_reducible refine LeO.ite ?_ ?_)
      | (with_reducible refine LeO.bind ?_ (fun _ => ?_))
      | exact ih0 _ _ _ _ _ _ _
      | exact ih1 _ _ _ _ _ _ _ _ _
      | exact ih2 _ _ _ _ _ _ _ _ _ _ _ _ _ _
      | exact gold_Pow.mono _ _ _
      | exact twid_Root.mono _ _ _
      | exact LeO.none _
      | refine LeO.ite ?_ ?_
      | refine LeO.bind ?_ (fun _ => ?_)
    · intro y0 y1 y2 y3 y4 y5 y6 y7 y8 y9 y10 y11 y12 y13
      unfold twid_Tile.l1
      repeat' first
      | (with_reducible exact ih0 _ _ _ _ _ _ _)
      | (with_reducible exact ih1 _ _ _ _ _ _ _ _ _)
      | (with_reducible exact ih2 _ _ _ _ _ _ _ _ _ _ _ _ _ _)
      | (with_reducible exact gold_Pow.mono _ _ _)
      | (with_reducible exact twid_Root.mono _ _ _)
      | (with_reducible exact LeO.refl _)
      | (with_reducible exact LeO.none _)
      | (with_reducible refine LeO.ite ?_ ?_)
      | (with_reducible refine LeO.bind ?_ (fun _ => ?_))
      | exact ih0 _ _ _ _ _ _ _
      | exact ih1 _ _ _ _ _ _ _ _ _
      | exact ih2 _ _ _ _ _ _ _ _ _ _ _ _ _ _
      | exact gold_Pow.mono _ _ _
      | exact twid_Root.mono _ _ _
      | exact LeO.none _
      | refine LeO.ite ?_ ?_
      | refine LeO.bind ?_ (fun _ => ?_)
theorem twid_Tile.mono : ∀ a0 a1 a2 a3 a4 a5 a6 k, LeO (twid_Tile.f k a0 a1 a2 a3 a4 a5 a6) (twid_Tile.f (k + 1) a0 a1 a2 a3 a4 a5 a6) := by
  intro a0 a1 a2 a3 a4 a5 a6 k
  obtain ⟨ih0, ih1, ih2⟩ := twid_Tile.mono_l k
  unfold twid_Tile.f
  repeat' first
      | (with_reducible exact ih0 _ _ _ _ _ _ _)
      | (with_reducible exact ih1 _ _ _ _ _ _ _ _ _)
      | (with_reducible exact ih2 _ _ _ _ _ _ _ _ _ _ _ _ _ _)
      | (with_reducible exact gold_Pow.mono _ _ _)
      | (with_reducible exact twid_Root.mono _ _ _)
      | (with_reducible exact LeO.refl _)
      | (with_reducible exact LeO.none _)
      | (with_reducible refine LeO.ite ?_ ?_)
      | (with_reducible refine LeO.bind ?_ (fun _ => ?_))
      | exact ih0 _ _ _ _ _ _ _
      | exact ih1 _ _ _ _ _ _ _ _ _
      | exact ih2 _ _ _ _ _ _ _ _ _ _ _ _ _ _
      | exact gold_Pow.mono _ _ _
      | exact twid_Root.mono _ _ _
      | exact LeO.none _
      | refine LeO.ite ?_ ?_
      | refine LeO.bind ?_ (fun _ => ?_)
set_option maxHeartbeats 80000000 in
set_option maxRecDepth 100000 in
theorem twid_Tile.calls (k : Nat) (A0 : Option Addr) (c0 : Nat) (l0 : List Int) (a1_0 : Int) (a1_1 : Int) (a1_2 : Int) (a1_3 : Int) (a2 : Int) (a3 : Int) (r1 : List Int) (r2 : Int) (w : World) (hr0 : Kd.C (Kd.int .u64) w A0 l0.length l0) (hc0 : l0.length ≤ c0) (hG : Aside0 (TzTab w)) (h : twid_Tile.f k l0 a1_0 a1_1 a1_2 a1_3 a2 a3 = some (r1, r2)) :
    Calls Tryd.prog 25 #[.slice A0 l0.length c0, .agg #[.int .i64 a1_0, .int .i64 a1_1, .int .i64 a1_2, .int .i64 a1_3], .int .i64 a2, .int .i64 a3] w fun e w' => ∃ v0_ : Value, e = .returned (.tuple #[v0_, .int .i64 r2]) ∧ Kd.R (Kd.int .u64) 32 w' w.heap.size (fun _ => True) v0_ r1 ∧ Below w.heap.size w w' := by
  have hu49 := Tryd.underlying49
  have hu47 := Tryd.underlying47
  have HR0 := Aside0.mk hr0
  have HC0 := Aside0.mk hc0
  clear hr0 hc0
  have HB := Aside0.mk (Below.refl w.heap.size w)
  have H : ((twid_Root.f k a2 a3).bind fun bt213 => (if bt213.2 = 0 then ((shape_Good.f a1_0 a1_1).bind fun t215 => (if t215 = true then (twid_Tile.j0 k l0 bt213.1 ((l0.length : Int) != (wrap64 (a1_0 * a1_1))) a1_0 a1_1 a1_2 a1_3) else (twid_Tile.j0 k l0 bt213.1 true a1_0 a1_1 a1_2 a1_3))) else (some (([] : List Int), bt213.2)))) = some (r1, r2) := h
  clear h
  replace H := Option.bind_eq_some_iff.mp H
  obtain ⟨⟨t213, t214⟩, A50, H⟩ := H
  replace H : (if t214 = 0 then ((shape_Good.f a1_0 a1_1).bind fun t215 => (if t215 = true then (twid_Tile.j0 k l0 t213 ((l0.length : Int) != (wrap64 (a1_0 * a1_1))) a1_0 a1_1 a1_2 a1_3) else (twid_Tile.j0 k l0 t213 true a1_0 a1_1 a1_2 a1_3))) else (some (([] : List Int), t214))) = some (r1, r2) := H
  have A5 := Aside0.mk A50
  clear A50
  by_cases c6 : t214 = 0
  · rw [if_pos c6] at H
    have c6b0 : (t214 == 0) = true := beq_iff_eq.mpr c6
    have c6b1 : (t214 != 0) = false := bne_eq_false_iff_eq.mpr c6
    clear c6
    have HC7 := Aside0.mk H
    clear H
    go_enter Tryd.func25, Tryd.ntmps25
    go_upto_region 4 with (first | ((with_reducible refine gate_dst (N := 5) rfl ?_); (try (refine gate_guard (by rfl) ?_; dsimp only)); refine box_event ?hg (N := 5) ?hd (cs := #[.int .i64 a1_0, .int .i64 a1_1, .int .i64 a1_2, .int .i64 a1_3]) (t := 49) ?hr ?_; (case hd => rfl); (case hg => rfl); (case hr => first | (go_simp; done) | (go_simp; rfl)); intro gb212 hg w8 hbox hb; have n0_ := Aside0.mk (below_step (by repeat (first | (with_reducible first | exact HB.out | apply below_alloc | apply pw_below_drewN | apply below_drew1) | exact HB.out)) hb); have n1_ := Aside0.mk (hbox); have n2_ := Aside0.mk ((by rw [hg]; exact (below_size (by repeat (first | (with_reducible first | exact HB.out | apply below_alloc | apply pw_below_drewN | apply below_drew1) | exact HB.out))) : w.heap.size ≤ gb212)); have n3_ := Aside0.mk ((by rw [hg]; exact (below_size (by repeat (first | (with_reducible first | exact HB.out | apply below_alloc | apply pw_below_drewN | apply below_drew1) | exact HB.out))) : w.heap.size ≤ gb212)); clear HB; have HB := n0_; have BK212 := n1_; have GW212 := n2_; have GE212 := n3_; clear n0_ n1_ n2_ n3_; clear hb hbox hg) | ((with_reducible refine gate_callee (f := 16) rfl ?_); refine goesL_ (some 21) rfl rfl Tryd.func16 (by kernel_rfl) rfl #[.int .i64 a2, .int .i64 a3] rfl (by (try simp only [List.map_toArray, List.map_cons, List.map_nil]); first | done | rfl | (simp only [List.length_drop, List.length_take]; rfl)) ?_; (with_reducible refine (twid_Root.calls k a2 a3 t213 t214 _ A5.out).mono ?_); rintro e w9 ⟨rfl, hb⟩; refine ⟨_, rfl, ?_⟩; have n0_ := Aside0.mk (blk_below (g := gb212) (o := .cells #[.int .i64 a1_0, .int .i64 a1_1, .int .i64 a1_2, .int .i64 a1_3] 49 (0, 0)) (by (with_reducible repeat (first | refine blk_drewN ?_ _ | refine blk_drew ?_ | refine blk_alloc ?_ _)); exact BK212.out) hb); have n1_ := Aside0.mk (below_step (by repeat (first | (with_reducible first | exact HB.out | apply below_alloc | apply pw_below_drewN | apply below_drew1 | refine below_set ?_ GE212.out) | exact HB.out)) hb); clear BK212; clear HB; have BK212 := n0_; have HB := n1_; clear n0_ n1_; (try clear hb); (try clear hb2); (try clear hk); (try clear hi)) | (go_at_call 16; (with_reducible refine (twid_Root.calls k a2 a3 t213 t214 _ A5.out).mono ?_); rintro e w9 ⟨rfl, hb⟩; have n0_ := Aside0.mk (blk_below (g := gb212) (o := .cells #[.int .i64 a1_0, .int .i64 a1_1, .int .i64 a1_2, .int .i64 a1_3] 49 (0, 0)) (by (with_reducible repeat (first | refine blk_drewN ?_ _ | refine blk_drew ?_ | refine blk_alloc ?_ _)); exact BK212.out) hb); have n1_ := Aside0.mk (below_step (by repeat (first | (with_reducible first | exact HB.out | apply below_alloc | apply pw_below_drewN | apply below_drew1 | refine below_set ?_ GE212.out) | exact HB.out)) hb); clear BK212; clear HB; have BK212 := n0_; have HB := n1_; clear n0_ n1_; (try clear hb); (try clear hb2); (try clear hk); (try clear hi)))
    (try simp only [Act.put, List.setIfInBounds_toArray, List.set_cons_zero, List.set_cons_succ])
    go_cut [28] (fun v28 wc => ∃ (kq : Nat) (x28_6 : Bool), v28 = .bool x28_6 ∧ Aside0 (twid_Tile.j0 kq l0 t213 x28_6 a1_0 a1_1 a1_2 a1_3 = some (r1, r2)) ∧ Aside0 (kq ≤ k) ∧ Aside0 (wc.heap[gb212]? = some (.cells #[.int .i64 a1_0, .int .i64 a1_1, .int .i64 a1_2, .int .i64 a1_3] 49 (0, 0))) ∧ Aside0 (Below w.heap.size w wc))
    case first =>
      have H := HC7.out
      clear HC7
      replace H := Option.bind_eq_some_iff.mp H
      obtain ⟨t215, A100, H⟩ := H
      replace H : (if t215 = true then (twid_Tile.j0 k l0 t213 ((l0.length : Int) != (wrap64 (a1_0 * a1_1))) a1_0 a1_1 a1_2 a1_3) else (twid_Tile.j0 k l0 t213 true a1_0 a1_1 a1_2 a1_3)) = some (r1, r2) := H
      have A10 := Aside0.mk A100
      clear A100
      by_cases c11 : t215 = true
      · subst c11
        have H1 : (twid_Tile.j0 k l0 t213 ((l0.length : Int) != (wrap64 (a1_0 * a1_1))) a1_0 a1_1 a1_2 a1_3) = some (r1, r2) := by rw [if_pos rfl] at H; exact H
        clear H
        have H := H1
        clear H1
        have H' := Aside0.mk H
        clear H
        have hcz12_0 : w9.cell? ⟨gb212, 0, none⟩ = some (.int .i64 a1_0) := (blk_cell BK212.out 0).trans rfl
        have hcz12_1 : w9.cell? ⟨gb212, 1, none⟩ = some (.int .i64 a1_1) := (blk_cell BK212.out 1).trans rfl
        have hcz12_2 : w9.cell? ⟨gb212, 2, none⟩ = some (.int .i64 a1_2) := (blk_cell BK212.out 2).trans rfl
        have hcz12_3 : w9.cell? ⟨gb212, 3, none⟩ = some (.int .i64 a1_3) := (blk_cell BK212.out 3).trans rfl
        have hfz12_0 := blk_frozen BK212.out 0
        have hfz12_1 := blk_frozen BK212.out 1
        have hfz12_2 := blk_frozen BK212.out 2
        have hfz12_3 := blk_frozen BK212.out 3
        go_wp2_with (first | ((with_reducible refine gate_callee (f := 43) rfl ?_); refine goesL_ (some 31) rfl rfl Tryd.func43 (by kernel_rfl) rfl #[.agg #[.int .i64 a1_0, .int .i64 a1_1]] rfl (by (try simp only [List.map_toArray, List.map_cons, List.map_nil]); first | done | rfl | (simp only [List.length_drop, List.length_take]; rfl)) ?_; (with_reducible refine (shape_Good.calls a1_0 a1_1 true _ ?sideG A10.out).mono ?_); (case sideG => first | exact hG | exact ⟨hG.out⟩ | exact ⟨hG.out.below (by repeat (first | (with_reducible first | exact HB.out | apply below_alloc | apply pw_below_drewN | apply below_drew1) | exact HB.out))⟩); rintro e w13 ⟨rfl, hb⟩; refine ⟨_, rfl, ?_⟩; have n0_ := Aside0.mk (blk_below (g := gb212) (o := .cells #[.int .i64 a1_0, .int .i64 a1_1, .int .i64 a1_2, .int .i64 a1_3] 49 (0, 0)) (by (with_reducible repeat (first | refine blk_drewN ?_ _ | refine blk_drew ?_ | refine blk_alloc ?_ _)); exact BK212.out) hb); have n1_ := Aside0.mk (below_step (by repeat (first | (with_reducible first | exact HB.out | apply below_alloc | apply pw_below_drewN | apply below_drew1 | refine below_set ?_ GE212.out) | exact HB.out)) hb); clear BK212; clear HB; have BK212 := n0_; have HB := n1_; clear n0_ n1_; (try clear hb); (try clear hb2); (try clear hk); (try clear hi); have hcz14_0 : w13.cell? ⟨gb212, 0, none⟩ = some (.int .i64 a1_0) := (blk_cell BK212.out 0).trans rfl; have hcz14_1 : w13.cell? ⟨gb212, 1, none⟩ = some (.int .i64 a1_1) := (blk_cell BK212.out 1).trans rfl; have hcz14_2 : w13.cell? ⟨gb212, 2, none⟩ = some (.int .i64 a1_2) := (blk_cell BK212.out 2).trans rfl; have hcz14_3 : w13.cell? ⟨gb212, 3, none⟩ = some (.int .i64 a1_3) := (blk_cell BK212.out 3).trans rfl; have hfz14_0 := blk_frozen BK212.out 0; have hfz14_1 := blk_frozen BK212.out 1; have hfz14_2 := blk_frozen BK212.out 2; have hfz14_3 := blk_frozen BK212.out 3) | (go_at_call 43; (with_reducible refine (shape_Good.calls a1_0 a1_1 true _ ?sideG A10.out).mono ?_); (case sideG => first | exact hG | exact ⟨hG.out⟩ | exact ⟨hG.out.below (by repeat (first | (with_reducible first | exact HB.out | apply below_alloc | apply pw_below_drewN | apply below_drew1) | exact HB.out))⟩); rintro e w13 ⟨rfl, hb⟩; have n0_ := Aside0.mk (blk_below (g := gb212) (o := .cells #[.int .i64 a1_0, .int .i64 a1_1, .int .i64 a1_2, .int .i64 a1_3] 49 (0, 0)) (by (with_reducible repeat (first | refine blk_drewN ?_ _ | refine blk_drew ?_ | refine blk_alloc ?_ _)); exact BK212.out) hb); have n1_ := Aside0.mk (below_step (by repeat (first | (with_reducible first | exact HB.out | apply below_alloc | apply pw_below_drewN | apply below_drew1 | refine below_set ?_ GE212.out) | exact HB.out)) hb); clear BK212; clear HB; have BK212 := n0_; have HB := n1_; clear n0_ n1_; (try clear hb); (try clear hb2); (try clear hk); (try clear hi); have hcz14_0 : w13.cell? ⟨gb212, 0, none⟩ = some (.int .i64 a1_0) := (blk_cell BK212.out 0).trans rfl; have hcz14_1 : w13.cell? ⟨gb212, 1, none⟩ = some (.int .i64 a1_1) := (blk_cell BK212.out 1).trans rfl; have hcz14_2 : w13.cell? ⟨gb212, 2, none⟩ = some (.int .i64 a1_2) := (blk_cell BK212.out 2).trans rfl; have hcz14_3 : w13.cell? ⟨gb212, 3, none⟩ = some (.int .i64 a1_3) := (blk_cell BK212.out 3).trans rfl; have hfz14_0 := blk_frozen BK212.out 0; have hfz14_1 := blk_frozen BK212.out 1; have hfz14_2 := blk_frozen BK212.out 2; have hfz14_3 := blk_frozen BK212.out 3))
        go_meet
        case rel => exact ⟨_, (((l0.length : Int) != (wrap64 (a1_0 * a1_1)))), (by first | rfl | (simp; done) | (simp [*]; done)), H', ⟨by first | omega | exact Nat.le_refl _⟩, ⟨by (with_reducible repeat (first | refine blk_drewN ?_ _ | refine blk_drew ?_ | refine blk_alloc ?_ _)); exact BK212.out⟩, ⟨by repeat (first | (with_reducible first | exact HB.out | apply below_alloc | apply pw_below_drewN | apply below_drew1 | refine below_set ?_ GE212.out) | exact HB.out)⟩⟩
      · replace c11 := Bool.eq_false_iff.mpr c11
        subst c11
        have H1 : (twid_Tile.j0 k l0 t213 true a1_0 a1_1 a1_2 a1_3) = some (r1, r2) := by rw [if_neg (show ¬ (false = true) by decide)] at H; exact H
        clear H
        have H := H1
        clear H1
        have H' := Aside0.mk H
        clear H
        have hcz15_0 : w9.cell? ⟨gb212, 0, none⟩ = some (.int .i64 a1_0) := (blk_cell BK212.out 0).trans rfl
        have hcz15_1 : w9.cell? ⟨gb212, 1, none⟩ = some (.int .i64 a1_1) := (blk_cell BK212.out 1).trans rfl
        have hcz15_2 : w9.cell? ⟨gb212, 2, none⟩ = some (.int .i64 a1_2) := (blk_cell BK212.out 2).trans rfl
        have hcz15_3 : w9.cell? ⟨gb212, 3, none⟩ = some (.int .i64 a1_3) := (blk_cell BK212.out 3).trans rfl
        have hfz15_0 := blk_frozen BK212.out 0
        have hfz15_1 := blk_frozen BK212.out 1
        have hfz15_2 := blk_frozen BK212.out 2
        have hfz15_3 := blk_frozen BK212.out 3
        go_wp2_with (first | ((with_reducible refine gate_callee (f := 43) rfl ?_); refine goesL_ (some 31) rfl rfl Tryd.func43 (by kernel_rfl) rfl #[.agg #[.int .i64 a1_0, .int .i64 a1_1]] rfl (by (try simp only [List.map_toArray, List.map_cons, List.map_nil]); first | done | rfl | (simp only [List.length_drop, List.length_take]; rfl)) ?_; (with_reducible refine (shape_Good.calls a1_0 a1_1 false _ ?sideG A10.out).mono ?_); (case sideG => first | exact hG | exact ⟨hG.out⟩ | exact ⟨hG.out.below (by repeat (first | (with_reducible first | exact HB.out | apply below_alloc | apply pw_below_drewN | apply below_drew1) | exact HB.out))⟩); rintro e w16 ⟨rfl, hb⟩; refine ⟨_, rfl, ?_⟩; have n0_ := Aside0.mk (blk_below (g := gb212) (o := .cells #[.int .i64 a1_0, .int .i64 a1_1, .int .i64 a1_2, .int .i64 a1_3] 49 (0, 0)) (by (with_reducible repeat (first | refine blk_drewN ?_ _ | refine blk_drew ?_ | refine blk_alloc ?_ _)); exact BK212.out) hb); have n1_ := Aside0.mk (below_step (by repeat (first | (with_reducible first | exact HB.out | apply below_alloc | apply pw_below_drewN | apply below_drew1 | refine below_set ?_ GE212.out) | exact HB.out)) hb); clear BK212; clear HB; have BK212 := n0_; have HB := n1_; clear n0_ n1_; (try clear hb); (try clear hb2); (try clear hk); (try clear hi)) | (go_at_call 43; (with_reducible refine (shape_Good.calls a1_0 a1_1 false _ ?sideG A10.out).mono ?_); (case sideG => first | exact hG | exact ⟨hG.out⟩ | exact ⟨hG.out.below (by repeat (first | (with_reducible first | exact HB.out | apply below_alloc | apply pw_below_drewN | apply below_drew1) | exact HB.out))⟩); rintro e w16 ⟨rfl, hb⟩; have n0_ := Aside0.mk (blk_below (g := gb212) (o := .cells #[.int .i64 a1_0, .int .i64 a1_1, .int .i64 a1_2, .int .i64 a1_3] 49 (0, 0)) (by (with_reducible repeat (first | refine blk_drewN ?_ _ | refine blk_drew ?_ | refine blk_alloc ?_ _)); exact BK212.out) hb); have n1_ := Aside0.mk (below_step (by repeat (first | (with_reducible first | exact HB.out | apply below_alloc | apply pw_below_drewN | apply below_drew1 | refine below_set ?_ GE212.out) | exact HB.out)) hb); clear BK212; clear HB; have BK212 := n0_; have HB := n1_; clear n0_ n1_; (try clear hb); (try clear hb2); (try clear hk); (try clear hi)))
        go_meet
        case rel => exact ⟨_, (true), (by first | rfl | (simp; done) | (simp [*]; done)), H', ⟨by first | omega | exact Nat.le_refl _⟩, ⟨by (with_reducible repeat (first | refine blk_drewN ?_ _ | refine blk_drew ?_ | refine blk_alloc ?_ _)); exact BK212.out⟩, ⟨by repeat (first | (with_reducible first | exact HB.out | apply below_alloc | apply pw_below_drewN | apply below_drew1 | refine below_set ?_ GE212.out) | exact HB.out)⟩⟩
    case rest =>
      clear HC7
      try clear c1
      try clear c2
      try clear p2
      try clear c4
      try clear c6
      try clear c6b0
      try clear c6b1
      try clear p6
      try clear c11
      try clear c16
      try clear hcz12_0
      try clear hcz12_1
      try clear hcz12_2
      try clear hcz12_3
      try clear hcz14_0
      try clear hcz14_1
      try clear hcz14_2
      try clear hcz14_3
      try clear hcz15_0
      try clear hcz15_1
      try clear hcz15_2
      try clear hcz15_3
      try clear hfz12_0
      try clear hfz12_1
      try clear hfz12_2
      try clear hfz12_3
      try clear hfz14_0
      try clear hfz14_1
      try clear hfz14_2
      try clear hfz14_3
      try clear hfz15_0
      try clear hfz15_1
      try clear hfz15_2
      try clear hfz15_3
      obtain ⟨kq, x28_6, rfl, HA, HJ6, BK212, HB⟩ := hcut
      cases kq with
      | zero => exact absurd HA.out (by simp [twid_Tile.j0])
      | succ kj6 =>
        have H := HA.out
        clear HA
        simp only [twid_Tile.j0] at H
        by_cases c17 : x28_6 = true
        · subst c17
          have H1 : (some (([] : List Int), 19)) = some (r1, r2) := by rw [if_pos rfl] at H; exact H
          clear H
          have H := H1
          clear H1
          simp only [Option.some.injEq, Prod.mk.injEq] at H
          obtain ⟨rfl, rfl⟩ := H
          go_wp2
          go_ret2
          exact ⟨_, by first | rfl | (simp [errW_none, errW_some] <;> rfl) | (simp [*, errW_none, errW_some] <;> rfl), by first | exact Kd.R_nil _ _ _ _ _ | exact Kd.N_nil _ _ _ _ _ | exact Kd.V_nil _ _ _ _ _ | exact Kd.Q_nil _ _ _ _ _ | exact Kd.S_nil _ _ _ _ _, by repeat (first | (with_reducible first | exact HB.out | apply below_alloc | apply pw_below_drewN | apply below_drew1 | refine below_set ?_ GE212.out) | exact HB.out)⟩
        · replace c17 := Bool.eq_false_iff.mpr c17
          subst c17
          have H1 : ((twid_reaches.f a1_0 a1_1 a1_2 a1_3).bind fun t216 => (if t216 = true then (if 0 ≤ (l0.length : Int) then (if ((l0.length : Int) : Int).toNat ≤ 35184372088832 then (twid_Tile.l0 kj6 l0 t213 (([] : List Int)) a1_0 0 a1_0 a1_1 a1_2 a1_3) else (none)) else (none)) else (some (([] : List Int), 2)))) = some (r1, r2) := by rw [if_neg (show ¬ (false = true) by decide)] at H; exact H
          clear H
          have H := H1
          clear H1
          replace H := Option.bind_eq_some_iff.mp H
          obtain ⟨t216, A180, H⟩ := H
          replace H : (if t216 = true then (if 0 ≤ (l0.length : Int) then (if ((l0.length : Int) : Int).toNat ≤ 35184372088832 then (twid_Tile.l0 kj6 l0 t213 (([] : List Int)) a1_0 0 a1_0 a1_1 a1_2 a1_3) else (none)) else (none)) else (some (([] : List Int), 2))) = some (r1, r2) := H
          have A18 := Aside0.mk A180
          clear A180
          by_cases c19 : t216 = true
          · subst c19
            have H1 : (if 0 ≤ (l0.length : Int) then (if ((l0.length : Int) : Int).toNat ≤ 35184372088832 then (twid_Tile.l0 kj6 l0 t213 (([] : List Int)) a1_0 0 a1_0 a1_1 a1_2 a1_3) else (none)) else (none)) = some (r1, r2) := by rw [if_pos rfl] at H; exact H
            clear H
            have H := H1
            clear H1
            by_cases c20 : 0 ≤ (l0.length : Int)
            · rw [if_pos c20] at H
              have c20b0 := eq_true c20
              have LTc20 := Aside0.mk (show (((l0.take (0 : Int).toNat).length : Int) = max 0 0) by rw [List.length_take]; omega)
              (try (have LDc20 := Aside0.mk (show ∀ lo_ : Nat, (((l0.take (0 : Int).toNat).drop lo_).length : Int) = (((0 : Int).toNat - lo_ : Nat) : Int) from fun lo_ => by rw [List.length_drop, List.length_take]; omega)))
              have c20b1 : decide (0 ≤ (l0.length : Int)) = true := decide_eq_true c20
              clear c20
              by_cases c21 : ((l0.length : Int) : Int).toNat ≤ 35184372088832
              · rw [if_pos c21] at H
                have c21b0 := eq_true c21
                have c21b1 : decide (((l0.length : Int) : Int).toNat ≤ 35184372088832) = true := decide_eq_true c21
                clear c21
                obtain ⟨y217, hy217⟩ : ∃ y_ : List Int, y_ = (([] : List Int)) := ⟨_, rfl⟩
                replace H : (twid_Tile.l0 kj6 l0 t213 y217 a1_0 0 a1_0 a1_1 a1_2 a1_3) = some (r1, r2) := by first | (rw [hy217]; with_reducible exact H) | (have H2_ := (Option.bind_some _ _).symm.trans H; rw [hy217]; with_reducible exact H2_) | (have H2_ := (Option.bind_some _ _).symm.trans H; with_reducible exact H2_) | with_reducible exact H | (rw [hy217]; exact H) | exact H
                have Ny217 := Aside0.mk hy217
                clear hy217
                have H' := Aside0.mk H
                clear H
                have hcz22_0 : wc.cell? ⟨gb212, 0, none⟩ = some (.int .i64 a1_0) := (blk_cell BK212.out 0).trans rfl
                have hcz22_1 : wc.cell? ⟨gb212, 1, none⟩ = some (.int .i64 a1_1) := (blk_cell BK212.out 1).trans rfl
                have hcz22_2 : wc.cell? ⟨gb212, 2, none⟩ = some (.int .i64 a1_2) := (blk_cell BK212.out 2).trans rfl
                have hcz22_3 : wc.cell? ⟨gb212, 3, none⟩ = some (.int .i64 a1_3) := (blk_cell BK212.out 3).trans rfl
                have hfz22_0 := blk_frozen BK212.out 0
                have hfz22_1 := blk_frozen BK212.out 1
                have hfz22_2 := blk_frozen BK212.out 2
                have hfz22_3 := blk_frozen BK212.out 3
                go_wp2_with (first | ((with_reducible refine gate_callee (f := 44) rfl ?_); refine goesL_ (some 47) rfl rfl Tryd.func44 (by kernel_rfl) rfl #[.agg #[.int .i64 a1_0, .int .i64 a1_1, .int .i64 a1_2, .int .i64 a1_3]] rfl (by (try simp only [List.map_toArray, List.map_cons, List.map_nil]); first | done | rfl | (simp only [List.length_drop, List.length_take]; rfl)) ?_; (with_reducible refine (twid_reaches.calls a1_0 a1_1 a1_2 a1_3 true _ A18.out).mono ?_); rintro e w23 ⟨rfl, hb⟩; refine ⟨_, rfl, ?_⟩; have n0_ := Aside0.mk (blk_below (g := gb212) (o := .cells #[.int .i64 a1_0, .int .i64 a1_1, .int .i64 a1_2, .int .i64 a1_3] 49 (0, 0)) (by (with_reducible repeat (first | refine blk_drewN ?_ _ | refine blk_drew ?_ | refine blk_alloc ?_ _)); exact BK212.out) hb); have n1_ := Aside0.mk (below_step (by repeat (first | (with_reducible first | exact HB.out | apply below_alloc | apply pw_below_drewN | apply below_drew1 | refine below_set ?_ GE212.out) | exact HB.out)) hb); clear BK212; clear HB; have BK212 := n0_; have HB := n1_; clear n0_ n1_; (try clear hb); (try clear hb2); (try clear hk); (try clear hi)) | (go_at_call 44; (with_reducible refine (twid_reaches.calls a1_0 a1_1 a1_2 a1_3 true _ A18.out).mono ?_); rintro e w23 ⟨rfl, hb⟩; have n0_ := Aside0.mk (blk_below (g := gb212) (o := .cells #[.int .i64 a1_0, .int .i64 a1_1, .int .i64 a1_2, .int .i64 a1_3] 49 (0, 0)) (by (with_reducible repeat (first | refine blk_drewN ?_ _ | refine blk_drew ?_ | refine blk_alloc ?_ _)); exact BK212.out) hb); have n1_ := Aside0.mk (below_step (by repeat (first | (with_reducible first | exact HB.out | apply below_alloc | apply pw_below_drewN | apply below_drew1 | refine below_set ?_ GE212.out) | exact HB.out)) hb); clear BK212; clear HB; have BK212 := n0_; have HB := n1_; clear n0_ n1_; (try clear hb); (try clear hb2); (try clear hk); (try clear hi)) | ((with_reducible refine gate_dst (N := 51) rfl ?_); (try (refine gate_guard (by rfl) ?_; dsimp only)); refine R_make0 (Kd.int .u64) _ 32 rfl (N := 51) rfl 22 _ _ rfl (l0.length : Int) rfl rfl Tryd.underlying22 (.int .u64 0) 8 info32 rfl (by decide) (by omega) (ok := fun _ => True) trivial (of_decide_eq_true (by first | (with_reducible assumption) | assumption)) (Nat.le_trans (Nat.mul_le_mul_right _ (of_decide_eq_true (by first | (with_reducible assumption) | assumption) : ((l0.length : Int) : Int).toNat ≤ 35184372088832)) (by omega)) (Below.refl _ _) (Nat.le_refl _) ?_; intro v218 w24 ho25 hb hg_ hnew_; clear hg_ hnew_; (first | rw [← Ny217.out] at ho25 | (simp only [Int.reduceToNat] at ho25; rw [← Ny217.out] at ho25)); have n0_ := Aside0.mk (Kd.R_lower ho25 (below_size (by repeat (first | (with_reducible first | exact HB.out | apply below_alloc | apply pw_below_drewN | apply below_drew1 | refine below_set ?_ GE212.out) | exact HB.out)))); have n1_ := Aside0.mk (blk_below (g := gb212) (o := .cells #[.int .i64 a1_0, .int .i64 a1_1, .int .i64 a1_2, .int .i64 a1_3] 49 (0, 0)) (by (with_reducible repeat (first | refine blk_drewN ?_ _ | refine blk_drew ?_ | refine blk_alloc ?_ _)); exact BK212.out) hb); have n2_ := Aside0.mk (below_step (by repeat (first | (with_reducible first | exact HB.out | apply below_alloc | apply pw_below_drewN | apply below_drew1 | refine below_set ?_ GE212.out) | exact HB.out)) hb); clear BK212; clear HB; have HO219 := n0_; have BK212 := n1_; have HB := n2_; clear n0_ n1_ n2_; clear hb ho25; have hcz26_0 : w24.cell? ⟨gb212, 0, none⟩ = some (.int .i64 a1_0) := (blk_cell BK212.out 0).trans rfl; have hcz26_1 : w24.cell? ⟨gb212, 1, none⟩ = some (.int .i64 a1_1) := (blk_cell BK212.out 1).trans rfl; have hcz26_2 : w24.cell? ⟨gb212, 2, none⟩ = some (.int .i64 a1_2) := (blk_cell BK212.out 2).trans rfl; have hcz26_3 : w24.cell? ⟨gb212, 3, none⟩ = some (.int .i64 a1_3) := (blk_cell BK212.out 3).trans rfl; have hfz26_0 := blk_frozen BK212.out 0; have hfz26_1 := blk_frozen BK212.out 1; have hfz26_2 := blk_frozen BK212.out 2; have hfz26_3 := blk_frozen BK212.out 3))
                go_loopg [12, 55] kj6 (fun kq v12 v55 w' => ∃ (x12_2 : List Int) (x55_2 : Int), v55 = .int .i64 x55_2 ∧ Aside0 (twid_Tile.l0 kq l0 t213 x12_2 a1_0 x55_2 a1_0 a1_1 a1_2 a1_3 = some (r1, r2)) ∧ Aside0 (kq ≤ kj6) ∧ Aside0 (Kd.R (Kd.int .u64) 32 w' w.heap.size (fun _ => True) v12 x12_2) ∧ Aside0 (w'.heap[gb212]? = some (.cells #[.int .i64 a1_0, .int .i64 a1_1, .int .i64 a1_2, .int .i64 a1_3] 49 (0, 0))) ∧ Aside0 (Below w.heap.size w w'))
                case atStart => exact ⟨(y217), (0), (by first | rfl | (simp; done) | (simp [*]; done)), H', ⟨Nat.le_refl _⟩, ⟨by (with_reducible repeat (first | apply Kd.R_alloc | apply Kd.R_drewN | apply Kd.R_drew)); exact HO219.out⟩, ⟨by (with_reducible repeat (first | refine blk_drewN ?_ _ | refine blk_drew ?_ | refine blk_alloc ?_ _)); exact BK212.out⟩, ⟨by repeat (first | (with_reducible first | exact HB.out | apply below_alloc | apply pw_below_drewN | apply below_drew1 | refine below_set ?_ GE212.out) | exact HB.out)⟩⟩
                case round =>
                  clear H'
                  try clear c1
                  try clear c2
                  try clear p2
                  try clear c4
                  try clear c6
                  try clear c6b0
                  try clear c6b1
                  try clear p6
                  try clear c11
                  try clear c16
                  try clear c17
                  try clear c19
                  try clear c20
                  try clear c20b0
                  try clear c20b1
                  try clear c21
                  try clear c21b0
                  try clear c21b1
                  try clear c25
                  try clear hcz12_0
                  try clear hcz12_1
                  try clear hcz12_2
                  try clear hcz12_3
                  try clear hcz14_0
                  try clear hcz14_1
                  try clear hcz14_2
                  try clear hcz14_3
                  try clear hcz15_0
                  try clear hcz15_1
                  try clear hcz15_2
                  try clear hcz15_3
                  try clear hcz22_0
                  try clear hcz22_1
                  try clear hcz22_2
                  try clear hcz22_3
                  try clear hcz26_0
                  try clear hcz26_1
                  try clear hcz26_2
                  try clear hcz26_3
                  try clear hfz12_0
                  try clear hfz12_1
                  try clear hfz12_2
                  try clear hfz12_3
                  try clear hfz14_0
                  try clear hfz14_1
                  try clear hfz14_2
                  try clear hfz14_3
                  try clear hfz15_0
                  try clear hfz15_1
                  try clear hfz15_2
                  try clear hfz15_3
                  try clear hfz22_0
                  try clear hfz22_1
                  try clear hfz22_2
                  try clear hfz22_3
                  try clear hfz26_0
                  try clear hfz26_1
                  try clear hfz26_2
                  try clear hfz26_3
                  try clear p2
                  try clear p6
                  obtain ⟨x12_2, x55_2, rfl, HA, HK2, HO_12, BK212, HB⟩ := hrel
                  cases gk with
                  | zero => exact absurd HA.out (by simp [twid_Tile.l0])
                  | succ k2 =>
                    have H := HA.out
                    clear HA
                    simp only [twid_Tile.l0] at H
                    by_cases c27 : x55_2 < a1_0
                    · rw [if_pos c27] at H
                      have c27b0 : decide (x55_2 < a1_0) = true := decide_eq_true c27
                      clear c27
                      replace H := Option.bind_eq_some_iff.mp H
                      obtain ⟨t220, A280, H⟩ := H
                      replace H : ((gold_Pow.f k2 t220 (IntKind.u64.wrap (a1_3))).bind fun t221 => (if 0 ≤ (wrap64 (x55_2 * a1_1)) then (if (wrap64 (x55_2 * a1_1)) ≤ (wrap64 ((wrap64 (x55_2 + 1)) * a1_1)) then (if (wrap64 ((wrap64 (x55_2 + 1)) * a1_1)) ≤ (l0.length : Int) then (twid_Tile.l1 k2 l0 t213 x12_2 t220 t221 a1_0 x55_2 ((l0.take ((wrap64 ((wrap64 (x55_2 + 1)) * a1_1)) : Int).toNat).drop ((wrap64 (x55_2 * a1_1)) : Int).toNat) (((l0.take ((wrap64 ((wrap64 (x55_2 + 1)) * a1_1)) : Int).toNat).drop ((wrap64 (x55_2 * a1_1)) : Int).toNat).length : Int) 0 a1_0 a1_1 a1_2 a1_3) else (none)) else (none)) else (none))) = some (r1, r2) := H
                      have A28 := Aside0.mk A280
                      clear A280
                      replace H := Option.bind_eq_some_iff.mp H
                      obtain ⟨t221, A290, H⟩ := H
                      replace H : (if 0 ≤ (wrap64 (x55_2 * a1_1)) then (if (wrap64 (x55_2 * a1_1)) ≤ (wrap64 ((wrap64 (x55_2 + 1)) * a1_1)) then (if (wrap64 ((wrap64 (x55_2 + 1)) * a1_1)) ≤ (l0.length : Int) then (twid_Tile.l1 k2 l0 t213 x12_2 t220 t221 a1_0 x55_2 ((l0.take ((wrap64 ((wrap64 (x55_2 + 1)) * a1_1)) : Int).toNat).drop ((wrap64 (x55_2 * a1_1)) : Int).toNat) (((l0.take ((wrap64 ((wrap64 (x55_2 + 1)) * a1_1)) : Int).toNat).drop ((wrap64 (x55_2 * a1_1)) : Int).toNat).length : Int) 0 a1_0 a1_1 a1_2 a1_3) else (none)) else (none)) else (none)) = some (r1, r2) := H
                      have A29 := Aside0.mk A290
                      clear A290
                      obtain ⟨ji30, hji30⟩ : ∃ j_ : Int, (wrap64 (x55_2 * a1_1)) = j_ := ⟨_, rfl⟩
                      (try (have hji30w : (IntKind.i64.wrap (x55_2 * a1_1)) = ji30 := by simpa only [i64_w] using hji30))
                      replace H : (if 0 ≤ (ji30) then (if (ji30) ≤ (wrap64 ((wrap64 (x55_2 + 1)) * a1_1)) then (if (wrap64 ((wrap64 (x55_2 + 1)) * a1_1)) ≤ (l0.length : Int) then (twid_Tile.l1 k2 l0 t213 x12_2 t220 t221 a1_0 x55_2 ((l0.take ((wrap64 ((wrap64 (x55_2 + 1)) * a1_1)) : Int).toNat).drop ((ji30) : Int).toNat) (((l0.take ((wrap64 ((wrap64 (x55_2 + 1)) * a1_1)) : Int).toNat).drop ((ji30) : Int).toNat).length : Int) 0 a1_0 a1_1 a1_2 a1_3) else (none)) else (none)) else (none)) = some (r1, r2) := by first | (rw [hji30] at H; exact H) | (simp only [hji30] at H ⊢; exact H)
                      (try rw [hji30] at A28)
                      (try rw [hji30] at A29)
                      have hji30w : (IntKind.i64.wrap (x55_2 * a1_1)) = ji30 := (i64_w _).trans hji30
                      by_cases c31 : 0 ≤ (ji30)
                      · rw [if_pos c31] at H
                        have c31b0 := eq_true c31
                        have c31b1 : decide (0 ≤ (ji30)) = true := decide_eq_true c31
                        clear c31
                        by_cases c32 : (ji30) ≤ (wrap64 ((wrap64 (x55_2 + 1)) * a1_1))
                        · rw [if_pos c32] at H
                          have c32b0 := eq_true c32
                          have c32b1 : decide ((ji30) ≤ (wrap64 ((wrap64 (x55_2 + 1)) * a1_1))) = true := decide_eq_true c32
                          by_cases c33 : (wrap64 ((wrap64 (x55_2 + 1)) * a1_1)) ≤ (l0.length : Int)
                          · rw [if_pos c33] at H
                            have c33b0 := eq_true c33
                            have LTc33 := Aside0.mk (show (((l0.take ((wrap64 ((wrap64 (x55_2 + 1)) * a1_1)) : Int).toNat).length : Int) = max (wrap64 ((wrap64 (x55_2 + 1)) * a1_1)) 0) by rw [List.length_take]; omega)
                            (try (have LDc33 := Aside0.mk (show ∀ lo_ : Nat, (((l0.take ((wrap64 ((wrap64 (x55_2 + 1)) * a1_1)) : Int).toNat).drop lo_).length : Int) = ((((wrap64 ((wrap64 (x55_2 + 1)) * a1_1)) : Int).toNat - lo_ : Nat) : Int) from fun lo_ => by rw [List.length_drop, List.length_take]; omega)))
                            have c33b1 : decide ((wrap64 ((wrap64 (x55_2 + 1)) * a1_1)) ≤ (l0.length : Int)) = true := decide_eq_true c33
                            have H' := Aside0.mk H
                            clear H
                            have hcz34_0 : wr.cell? ⟨gb212, 0, none⟩ = some (.int .i64 a1_0) := (blk_cell BK212.out 0).trans rfl
                            have hcz34_1 : wr.cell? ⟨gb212, 1, none⟩ = some (.int .i64 a1_1) := (blk_cell BK212.out 1).trans rfl
                            have hcz34_2 : wr.cell? ⟨gb212, 2, none⟩ = some (.int .i64 a1_2) := (blk_cell BK212.out 2).trans rfl
                            have hcz34_3 : wr.cell? ⟨gb212, 3, none⟩ = some (.int .i64 a1_3) := (blk_cell BK212.out 3).trans rfl
                            have hfz34_0 := blk_frozen BK212.out 0
                            have hfz34_1 := blk_frozen BK212.out 1
                            have hfz34_2 := blk_frozen BK212.out 2
                            have hfz34_3 := blk_frozen BK212.out 3
                            go_wp2_with (first | ((with_reducible refine gate_callee (f := 33) rfl ?_); refine goesL_ (some 64) rfl rfl Tryd.func33 (by kernel_rfl) rfl #[.int .u64 t213, .int .u64 (IntKind.u64.wrap (wrap64 (a1_2 + x55_2)))] rfl (by (try simp only [List.map_toArray, List.map_cons, List.map_nil]); first | done | rfl | (simp only [List.length_drop, List.length_take]; rfl)) ?_; (with_reducible refine (gold_Pow.calls k2 t213 (IntKind.u64.wrap (wrap64 (a1_2 + x55_2))) t220 _ A28.out).mono ?_); rintro e w35 ⟨rfl, hb⟩; refine ⟨_, rfl, ?_⟩; have n0_ := Aside0.mk (Kd.R_below (by (with_reducible repeat (first | apply Kd.R_alloc | apply Kd.R_drewN | apply Kd.R_drew)); exact HO_12.out) hb); have n1_ := Aside0.mk (blk_below (g := gb212) (o := .cells #[.int .i64 a1_0, .int .i64 a1_1, .int .i64 a1_2, .int .i64 a1_3] 49 (0, 0)) (by (with_reducible repeat (first | refine blk_drewN ?_ _ | refine blk_drew ?_ | refine blk_alloc ?_ _)); exact BK212.out) hb); have n2_ := Aside0.mk (below_step (by repeat (first | (with_reducible first | exact HB.out | apply below_alloc | apply pw_below_drewN | apply below_drew1 | refine below_set ?_ GE212.out) | exact HB.out)) hb); clear HO_12; clear BK212; clear HB; have HO_12 := n0_; have BK212 := n1_; have HB := n2_; clear n0_ n1_ n2_; (try clear hb); (try clear hb2); (try clear hk); (try clear hi); have hcz36_0 : w35.cell? ⟨gb212, 0, none⟩ = some (.int .i64 a1_0) := (blk_cell BK212.out 0).trans rfl; have hcz36_1 : w35.cell? ⟨gb212, 1, none⟩ = some (.int .i64 a1_1) := (blk_cell BK212.out 1).trans rfl; have hcz36_2 : w35.cell? ⟨gb212, 2, none⟩ = some (.int .i64 a1_2) := (blk_cell BK212.out 2).trans rfl; have hcz36_3 : w35.cell? ⟨gb212, 3, none⟩ = some (.int .i64 a1_3) := (blk_cell BK212.out 3).trans rfl; have hfz36_0 := blk_frozen BK212.out 0; have hfz36_1 := blk_frozen BK212.out 1; have hfz36_2 := blk_frozen BK212.out 2; have hfz36_3 := blk_frozen BK212.out 3) | (go_at_call 33; (with_reducible refine (gold_Pow.calls k2 t213 (IntKind.u64.wrap (wrap64 (a1_2 + x55_2))) t220 _ A28.out).mono ?_); rintro e w35 ⟨rfl, hb⟩; have n0_ := Aside0.mk (Kd.R_below (by (with_reducible repeat (first | apply Kd.R_alloc | apply Kd.R_drewN | apply Kd.R_drew)); exact HO_12.out) hb); have n1_ := Aside0.mk (blk_below (g := gb212) (o := .cells #[.int .i64 a1_0, .int .i64 a1_1, .int .i64 a1_2, .int .i64 a1_3] 49 (0, 0)) (by (with_reducible repeat (first | refine blk_drewN ?_ _ | refine blk_drew ?_ | refine blk_alloc ?_ _)); exact BK212.out) hb); have n2_ := Aside0.mk (below_step (by repeat (first | (with_reducible first | exact HB.out | apply below_alloc | apply pw_below_drewN | apply below_drew1 | refine below_set ?_ GE212.out) | exact HB.out)) hb); clear HO_12; clear BK212; clear HB; have HO_12 := n0_; have BK212 := n1_; have HB := n2_; clear n0_ n1_ n2_; (try clear hb); (try clear hb2); (try clear hk); (try clear hi); have hcz36_0 : w35.cell? ⟨gb212, 0, none⟩ = some (.int .i64 a1_0) := (blk_cell BK212.out 0).trans rfl; have hcz36_1 : w35.cell? ⟨gb212, 1, none⟩ = some (.int .i64 a1_1) := (blk_cell BK212.out 1).trans rfl; have hcz36_2 : w35.cell? ⟨gb212, 2, none⟩ = some (.int .i64 a1_2) := (blk_cell BK212.out 2).trans rfl; have hcz36_3 : w35.cell? ⟨gb212, 3, none⟩ = some (.int .i64 a1_3) := (blk_cell BK212.out 3).trans rfl; have hfz36_0 := blk_frozen BK212.out 0; have hfz36_1 := blk_frozen BK212.out 1; have hfz36_2 := blk_frozen BK212.out 2; have hfz36_3 := blk_frozen BK212.out 3) | ((with_reducible refine gate_callee (f := 33) rfl ?_); refine goesL_ (some 69) rfl rfl Tryd.func33 (by kernel_rfl) rfl #[.int .u64 t220, .int .u64 (IntKind.u64.wrap (a1_3))] rfl (by (try simp only [List.map_toArray, List.map_cons, List.map_nil]); first | done | rfl | (simp only [List.length_drop, List.length_take]; rfl)) ?_; (with_reducible refine (gold_Pow.calls k2 t220 (IntKind.u64.wrap (a1_3)) t221 _ A29.out).mono ?_); rintro e w37 ⟨rfl, hb⟩; refine ⟨_, rfl, ?_⟩; have n0_ := Aside0.mk (Kd.R_below (by (with_reducible repeat (first | apply Kd.R_alloc | apply Kd.R_drewN | apply Kd.R_drew)); exact HO_12.out) hb); have n1_ := Aside0.mk (blk_below (g := gb212) (o := .cells #[.int .i64 a1_0, .int .i64 a1_1, .int .i64 a1_2, .int .i64 a1_3] 49 (0, 0)) (by (with_reducible repeat (first | refine blk_drewN ?_ _ | refine blk_drew ?_ | refine blk_alloc ?_ _)); exact BK212.out) hb); have n2_ := Aside0.mk (below_step (by repeat (first | (with_reducible first | exact HB.out | apply below_alloc | apply pw_below_drewN | apply below_drew1 | refine below_set ?_ GE212.out) | exact HB.out)) hb); clear HO_12; clear BK212; clear HB; have HO_12 := n0_; have BK212 := n1_; have HB := n2_; clear n0_ n1_ n2_; (try clear hb); (try clear hb2); (try clear hk); (try clear hi); have hcz38_0 : w37.cell? ⟨gb212, 0, none⟩ = some (.int .i64 a1_0) := (blk_cell BK212.out 0).trans rfl; have hcz38_1 : w37.cell? ⟨gb212, 1, none⟩ = some (.int .i64 a1_1) := (blk_cell BK212.out 1).trans rfl; have hcz38_2 : w37.cell? ⟨gb212, 2, none⟩ = some (.int .i64 a1_2) := (blk_cell BK212.out 2).trans rfl; have hcz38_3 : w37.cell? ⟨gb212, 3, none⟩ = some (.int .i64 a1_3) := (blk_cell BK212.out 3).trans rfl; have hfz38_0 := blk_frozen BK212.out 0; have hfz38_1 := blk_frozen BK212.out 1; have hfz38_2 := blk_frozen BK212.out 2; have hfz38_3 := blk_frozen BK212.out 3; obtain ⟨i039, hi039, _, hsz39, _⟩ := info_parts info32; obtain ⟨A39, hcut39, hA39, hC39⟩ := print_mid_of (P := Tryd.prog) (Value.int .u64) 0 22 32 .i64 .i64 Tryd.underlying22 hi039 hsz39 A0 c0 l0 (ji30) (wrap64 ((wrap64 (x55_2 + 1)) * a1_1)) (of_decide_eq_true (by first | (with_reducible assumption) | assumption)) (by first | omega | exact of_decide_eq_true (by first | (with_reducible assumption) | assumption)) (of_decide_eq_true (by first | (with_reducible assumption) | assumption)) HC0.out; have HR222 := Aside0.mk (Kd.C_of_reads (h1 := fun _ => rfl) (hA39 _ (Kd.reads_of_C HR0.out))); have HC222 := Aside0.mk hC39; clear hA39 hC39 hi039 hsz39) | (go_at_call 33; (with_reducible refine (gold_Pow.calls k2 t220 (IntKind.u64.wrap (a1_3)) t221 _ A29.out).mono ?_); rintro e w37 ⟨rfl, hb⟩; have n0_ := Aside0.mk (Kd.R_below (by (with_reducible repeat (first | apply Kd.R_alloc | apply Kd.R_drewN | apply Kd.R_drew)); exact HO_12.out) hb); have n1_ := Aside0.mk (blk_below (g := gb212) (o := .cells #[.int .i64 a1_0, .int .i64 a1_1, .int .i64 a1_2, .int .i64 a1_3] 49 (0, 0)) (by (with_reducible repeat (first | refine blk_drewN ?_ _ | refine blk_drew ?_ | refine blk_alloc ?_ _)); exact BK212.out) hb); have n2_ := Aside0.mk (below_step (by repeat (first | (with_reducible first | exact HB.out | apply below_alloc | apply pw_below_drewN | apply below_drew1 | refine below_set ?_ GE212.out) | exact HB.out)) hb); clear HO_12; clear BK212; clear HB; have HO_12 := n0_; have BK212 := n1_; have HB := n2_; clear n0_ n1_ n2_; (try clear hb); (try clear hb2); (try clear hk); (try clear hi); have hcz38_0 : w37.cell? ⟨gb212, 0, none⟩ = some (.int .i64 a1_0) := (blk_cell BK212.out 0).trans rfl; have hcz38_1 : w37.cell? ⟨gb212, 1, none⟩ = some (.int .i64 a1_1) := (blk_cell BK212.out 1).trans rfl; have hcz38_2 : w37.cell? ⟨gb212, 2, none⟩ = some (.int .i64 a1_2) := (blk_cell BK212.out 2).trans rfl; have hcz38_3 : w37.cell? ⟨gb212, 3, none⟩ = some (.int .i64 a1_3) := (blk_cell BK212.out 3).trans rfl; have hfz38_0 := blk_frozen BK212.out 0; have hfz38_1 := blk_frozen BK212.out 1; have hfz38_2 := blk_frozen BK212.out 2; have hfz38_3 := blk_frozen BK212.out 3; obtain ⟨i039, hi039, _, hsz39, _⟩ := info_parts info32; obtain ⟨A39, hcut39, hA39, hC39⟩ := print_mid_of (P := Tryd.prog) (Value.int .u64) 0 22 32 .i64 .i64 Tryd.underlying22 hi039 hsz39 A0 c0 l0 (ji30) (wrap64 ((wrap64 (x55_2 + 1)) * a1_1)) (of_decide_eq_true (by first | (with_reducible assumption) | assumption)) (by first | omega | exact of_decide_eq_true (by first | (with_reducible assumption) | assumption)) (of_decide_eq_true (by first | (with_reducible assumption) | assumption)) HC0.out; have HR222 := Aside0.mk (Kd.C_of_reads (h1 := fun _ => rfl) (hA39 _ (Kd.reads_of_C HR0.out))); have HC222 := Aside0.mk hC39; clear hA39 hC39 hi039 hsz39))
                            go_loopg [12, 15, 84] k2 (fun kq v12 v15 v84 w' => ∃ (x12_3 : List Int) (x15_3 : Int) (x84_3 : Int), v15 = .int .u64 x15_3 ∧ v84 = .int .i64 x84_3 ∧ Aside0 (twid_Tile.l1 kq l0 t213 x12_3 t220 x15_3 a1_0 x55_2 ((l0.take ((wrap64 ((wrap64 (x55_2 + 1)) * a1_1)) : Int).toNat).drop ((ji30) : Int).toNat) (((l0.take ((wrap64 ((wrap64 (x55_2 + 1)) * a1_1)) : Int).toNat).drop ((ji30) : Int).toNat).length : Int) x84_3 a1_0 a1_1 a1_2 a1_3 = some (r1, r2)) ∧ Aside0 (kq ≤ k2) ∧ Aside0 (Kd.R (Kd.int .u64) 32 w' w.heap.size (fun _ => True) v12 x12_3) ∧ Aside0 (w'.heap[gb212]? = some (.cells #[.int .i64 a1_0, .int .i64 a1_1, .int .i64 a1_2, .int .i64 a1_3] 49 (0, 0))) ∧ Aside0 (Below w.heap.size w w'))
                            case atStart => exact ⟨(x12_2), (t221), (0), (by first | rfl | (simp; done) | (simp [*]; done)), (by first | rfl | (simp; done) | (simp [*]; done)), H', ⟨Nat.le_refl _⟩, ⟨by (with_reducible repeat (first | apply Kd.R_alloc | apply Kd.R_drewN | apply Kd.R_drew)); exact HO_12.out⟩, ⟨by (with_reducible repeat (first | refine blk_drewN ?_ _ | refine blk_drew ?_ | refine blk_alloc ?_ _)); exact BK212.out⟩, ⟨by repeat (first | (with_reducible first | exact HB.out | apply below_alloc | apply pw_below_drewN | apply below_drew1 | refine below_set ?_ GE212.out) | exact HB.out)⟩⟩
                            case round =>
                              clear H'
                              try clear c1
                              try clear c2
                              try clear p2
                              try clear c3
                              try clear c4
                              try clear c6
                              try clear c6b0
                              try clear c6b1
                              try clear p6
                              try clear c11
                              try clear c16
                              try clear c17
                              try clear c19
                              try clear c20
                              try clear c20b0
                              try clear c20b1
                              try clear c21
                              try clear c21b0
                              try clear c21b1
                              try clear c25
                              try clear c27
                              try clear c27b0
                              try clear c31
                              try clear c31b0
                              try clear c31b1
                              try clear c32
                              try clear c32b0
                              try clear c32b1
                              try clear c33
                              try clear c33b0
                              try clear c33b1
                              try clear hcz12_0
                              try clear hcz12_1
                              try clear hcz12_2
                              try clear hcz12_3
                              try clear hcz14_0
                              try clear hcz14_1
                              try clear hcz14_2
                              try clear hcz14_3
                              try clear hcz15_0
                              try clear hcz15_1
                              try clear hcz15_2
                              try clear hcz15_3
                              try clear hcz22_0
                              try clear hcz22_1
                              try clear hcz22_2
                              try clear hcz22_3
                              try clear hcz26_0
                              try clear hcz26_1
                              try clear hcz26_2
                              try clear hcz26_3
                              try clear hcz34_0
                              try clear hcz34_1
                              try clear hcz34_2
                              try clear hcz34_3
                              try clear hcz36_0
                              try clear hcz36_1
                              try clear hcz36_2
                              try clear hcz36_3
                              try clear hcz38_0
                              try clear hcz38_1
                              try clear hcz38_2
                              try clear hcz38_3
                              try clear hfz12_0
                              try clear hfz12_1
                              try clear hfz12_2
                              try clear hfz12_3
                              try clear hfz14_0
                              try clear hfz14_1
                              try clear hfz14_2
                              try clear hfz14_3
                              try clear hfz15_0
                              try clear hfz15_1
                              try clear hfz15_2
                              try clear hfz15_3
                              try clear hfz22_0
                              try clear hfz22_1
                              try clear hfz22_2
                              try clear hfz22_3
                              try clear hfz26_0
                              try clear hfz26_1
                              try clear hfz26_2
                              try clear hfz26_3
                              try clear hfz34_0
                              try clear hfz34_1
                              try clear hfz34_2
                              try clear hfz34_3
                              try clear hfz36_0
                              try clear hfz36_1
                              try clear hfz36_2
                              try clear hfz36_3
                              try clear hfz38_0
                              try clear hfz38_1
                              try clear hfz38_2
                              try clear hfz38_3
                              try clear p2
                              try clear p6
                              obtain ⟨x12_3, x15_3, x84_3, rfl, rfl, HA, HK3, HO_12, BK212, HB⟩ := hrel
                              cases gk with
                              | zero => exact absurd HA.out (by simp [twid_Tile.l1])
                              | succ k3 =>
                                have H := HA.out
                                clear HA
                                simp only [twid_Tile.l1] at H
                                by_cases c40 : x84_3 < (((l0.take ((wrap64 ((wrap64 (x55_2 + 1)) * a1_1)) : Int).toNat).drop ((ji30) : Int).toNat).length : Int)
                                · rw [if_pos c40] at H
                                  have c40b0 : decide (x84_3 < (((l0.take ((wrap64 ((wrap64 (x55_2 + 1)) * a1_1)) : Int).toNat).drop ((ji30) : Int).toNat).length : Int)) = true := decide_eq_true c40
                                  (try (have c40b0_0 := c40b0; rw [LTc20.out] at c40b0_0))
                                  (try (have c40b0_0p := eq_true (of_decide_eq_true c40b0_0)))
                                  (try (have c40b0_1 := c40b0; rw [LDc20.out] at c40b0_1))
                                  (try (have c40b0_1p := eq_true (of_decide_eq_true c40b0_1)))
                                  (try (have c40b0_2 := c40b0; rw [LTc33.out] at c40b0_2))
                                  (try (have c40b0_2p := eq_true (of_decide_eq_true c40b0_2)))
                                  (try (have c40b0_3 := c40b0; rw [LDc33.out] at c40b0_3))
                                  (try (have c40b0_3p := eq_true (of_decide_eq_true c40b0_3)))
                                  clear c40
                                  by_cases c41 : 0 ≤ x84_3
                                  · rw [if_pos c41] at H
                                    have c41b0 : decide (0 ≤ x84_3) = true := decide_eq_true c41
                                    clear c41
                                    by_cases c42 : x84_3 < (((l0.take ((wrap64 ((wrap64 (x55_2 + 1)) * a1_1)) : Int).toNat).drop ((ji30) : Int).toNat).length : Int)
                                    · rw [if_pos c42] at H
                                      have c42b0 : decide (x84_3 < (((l0.take ((wrap64 ((wrap64 (x55_2 + 1)) * a1_1)) : Int).toNat).drop ((ji30) : Int).toNat).length : Int)) = true := decide_eq_true c42
                                      (try (have c42b0_0 := c42b0; rw [LTc20.out] at c42b0_0))
                                      (try (have c42b0_0p := eq_true (of_decide_eq_true c42b0_0)))
                                      (try (have c42b0_1 := c42b0; rw [LDc20.out] at c42b0_1))
                                      (try (have c42b0_1p := eq_true (of_decide_eq_true c42b0_1)))
                                      (try (have c42b0_2 := c42b0; rw [LTc33.out] at c42b0_2))
                                      (try (have c42b0_2p := eq_true (of_decide_eq_true c42b0_2)))
                                      (try (have c42b0_3 := c42b0; rw [LDc33.out] at c42b0_3))
                                      (try (have c42b0_3p := eq_true (of_decide_eq_true c42b0_3)))
                                      clear c42
                                      replace H := Option.bind_eq_some_iff.mp H
                                      obtain ⟨t224, A430, H⟩ := H
                                      replace H : (if x12_3.length < 17592186044416 then ((gold_Mul.f x15_3 t220).bind fun t228 => (twid_Tile.l1 k3 l0 t213 (x12_3 ++ [t224]) t220 t228 a1_0 x55_2 ((l0.take ((wrap64 ((wrap64 (x55_2 + 1)) * a1_1)) : Int).toNat).drop ((ji30) : Int).toNat) (((l0.take ((wrap64 ((wrap64 (x55_2 + 1)) * a1_1)) : Int).toNat).drop ((ji30) : Int).toNat).length : Int) (wrap64 (x84_3 + 1)) a1_0 a1_1 a1_2 a1_3)) else (none)) = some (r1, r2) := H
                                      have A43 := Aside0.mk A430
                                      clear A430
                                      by_cases c44 : x12_3.length < 17592186044416
                                      · rw [if_pos c44] at H
                                        have LMc44 := Aside0.mk c44
                                        clear c44
                                        obtain ⟨y225, hy225⟩ : ∃ y_ : List Int, y_ = (x12_3 ++ [t224]) := ⟨_, rfl⟩
                                        replace H : ((gold_Mul.f x15_3 t220).bind fun t228 => (twid_Tile.l1 k3 l0 t213 y225 t220 t228 a1_0 x55_2 ((l0.take ((wrap64 ((wrap64 (x55_2 + 1)) * a1_1)) : Int).toNat).drop ((ji30) : Int).toNat) (((l0.take ((wrap64 ((wrap64 (x55_2 + 1)) * a1_1)) : Int).toNat).drop ((ji30) : Int).toNat).length : Int) (wrap64 (x84_3 + 1)) a1_0 a1_1 a1_2 a1_3)) = some (r1, r2) := by first | (rw [hy225]; with_reducible exact H) | (have H2_ := (Option.bind_some _ _).symm.trans H; rw [hy225]; with_reducible exact H2_) | (have H2_ := (Option.bind_some _ _).symm.trans H; with_reducible exact H2_) | with_reducible exact H | (rw [hy225]; exact H) | exact H
                                        have Ny225 := Aside0.mk hy225
                                        clear hy225
                                        replace H := Option.bind_eq_some_iff.mp H
                                        obtain ⟨t228, A450, H⟩ := H
                                        replace H : (twid_Tile.l1 k3 l0 t213 y225 t220 t228 a1_0 x55_2 ((l0.take ((wrap64 ((wrap64 (x55_2 + 1)) * a1_1)) : Int).toNat).drop ((ji30) : Int).toNat) (((l0.take ((wrap64 ((wrap64 (x55_2 + 1)) * a1_1)) : Int).toNat).drop ((ji30) : Int).toNat).length : Int) (wrap64 (x84_3 + 1)) a1_0 a1_1 a1_2 a1_3) = some (r1, r2) := H
                                        have A45 := Aside0.mk A450
                                        clear A450
                                        have H' := Aside0.mk H
                                        clear H
                                        have p223 : 0 ≤ (x84_3 : Int) := of_decide_eq_true (by first | (with_reducible assumption) | assumption)
                                        have q223 : x84_3 < (((l0.take ((wrap64 ((wrap64 (x55_2 + 1)) * a1_1)) : Int).toNat).drop ((ji30) : Int).toNat).length : Int) := of_decide_eq_true (by first | (with_reducible assumption) | assumption)
                                        obtain ⟨ad223, e223, hx223_0⟩ := Kd.at_int HR222.out x84_3 p223 q223
                                        cases e223
                                        replace hx223_0 := (HB.out.cell (World.block_lt_of_cell? w _ hx223_0)).trans hx223_0
                                        replace p223 := eq_true p223
                                        replace q223 := eq_true q223
                                        go_wp2_with (first | ((with_reducible refine gate_callee (f := 36) rfl ?_); refine goesL_ (some 91) rfl rfl Tryd.func36 (by kernel_rfl) rfl #[.int .u64 (rd ((l0.take ((wrap64 ((wrap64 (x55_2 + 1)) * a1_1)) : Int).toNat).drop ((ji30) : Int).toNat) x84_3), .int .u64 x15_3] rfl (by (try simp only [List.map_toArray, List.map_cons, List.map_nil]); first | done | (simp only [hji30]; rfl) | rfl | (simp only [List.length_drop, List.length_take]; rfl)) ?_; (with_reducible refine (gold_Mul.calls (rd ((l0.take ((wrap64 ((wrap64 (x55_2 + 1)) * a1_1)) : Int).toNat).drop ((ji30) : Int).toNat) x84_3) x15_3 t224 _ A43.out).mono ?_); rintro e w46 ⟨rfl, hb⟩; refine ⟨_, rfl, ?_⟩; have n0_ := Aside0.mk (Kd.R_below (by (with_reducible repeat (first | apply Kd.R_alloc | apply Kd.R_drewN | apply Kd.R_drew)); exact HO_12.out) hb); have n1_ := Aside0.mk (blk_below (g := gb212) (o := .cells #[.int .i64 a1_0, .int .i64 a1_1, .int .i64 a1_2, .int .i64 a1_3] 49 (0, 0)) (by (with_reducible repeat (first | refine blk_drewN ?_ _ | refine blk_drew ?_ | refine blk_alloc ?_ _)); exact BK212.out) hb); have n2_ := Aside0.mk (below_step (by repeat (first | (with_reducible first | exact HB.out | apply below_alloc | apply pw_below_drewN | apply below_drew1 | refine below_set ?_ GE212.out) | exact HB.out)) hb); clear HO_12; clear BK212; clear HB; have HO_12 := n0_; have BK212 := n1_; have HB := n2_; clear n0_ n1_ n2_; (try clear hb); (try clear hb2); (try clear hk); (try clear hi)) | (go_at_call 36; (with_reducible refine (gold_Mul.calls (rd ((l0.take ((wrap64 ((wrap64 (x55_2 + 1)) * a1_1)) : Int).toNat).drop ((ji30) : Int).toNat) x84_3) x15_3 t224 _ A43.out).mono ?_); rintro e w46 ⟨rfl, hb⟩; have n0_ := Aside0.mk (Kd.R_below (by (with_reducible repeat (first | apply Kd.R_alloc | apply Kd.R_drewN | apply Kd.R_drew)); exact HO_12.out) hb); have n1_ := Aside0.mk (blk_below (g := gb212) (o := .cells #[.int .i64 a1_0, .int .i64 a1_1, .int .i64 a1_2, .int .i64 a1_3] 49 (0, 0)) (by (with_reducible repeat (first | refine blk_drewN ?_ _ | refine blk_drew ?_ | refine blk_alloc ?_ _)); exact BK212.out) hb); have n2_ := Aside0.mk (below_step (by repeat (first | (with_reducible first | exact HB.out | apply below_alloc | apply pw_below_drewN | apply below_drew1 | refine below_set ?_ GE212.out) | exact HB.out)) hb); clear HO_12; clear BK212; clear HB; have HO_12 := n0_; have BK212 := n1_; have HB := n2_; clear n0_ n1_ n2_; (try clear hb); (try clear hb2); (try clear hk); (try clear hi)) | ((with_reducible refine gate_builtin (b := .append) (xs := #[.tmp 88, .tmp 92]) rfl ?_); (try (refine gate_guard (by rfl) ?_; dsimp only)); at_builtin; refine Kd.R_append (Kd.int .u64) (w0 := w) w.heap.size rfl (.tmp 88) (.tmp 92) 22 32 (.int .u64 0) 8 rfl Tryd.underlying22 info32 rfl (by decide) (by omega) u12 x12_3 t224 [.int .u64 t224] (fun _ => True) (fun _ => False) rfl rfl ?aP (fun _ hk => hk.elim) ?aF ?aO ?aB ?aS ?aL ?_; (case aP => exact rfl); (case aB => exact (by repeat (first | (with_reducible first | exact HB.out | apply below_alloc | apply pw_below_drewN | apply below_drew1 | refine below_set ?_ GE212.out) | exact HB.out))); (case aF => exact (fun _ _ => trivial)); (case aO => exact (by (with_reducible repeat (first | apply Kd.R_alloc | apply Kd.R_drewN | apply Kd.R_drew)); exact HO_12.out)); (case aS => exact (below_size (by repeat (first | (with_reducible first | exact HB.out | apply below_alloc | apply pw_below_drewN | apply below_drew1 | refine below_set ?_ GE212.out) | exact HB.out)))); (case aL => have := LMc44.out; omega); intro v226 w47 ho hb hg hat; rw [← Ny225.out] at ho; have n0_ := Aside0.mk (blk_grown (g := gb212) (o := .cells #[.int .i64 a1_0, .int .i64 a1_1, .int .i64 a1_2, .int .i64 a1_3] 49 (0, 0)) (by (with_reducible repeat (first | refine blk_drewN ?_ _ | refine blk_drew ?_ | refine blk_alloc ?_ _)); exact BK212.out) hg (Kd.R_ne HO_12.out BK212.out (by decide))); have n1_ := Aside0.mk (hb); have n2_ := Aside0.mk (ho); clear BK212; clear HB; clear HO_12; have BK212 := n0_; have HB := n1_; have HO227 := n2_; clear n0_ n1_ n2_; clear ho hb hg hat) | ((with_reducible refine gate_callee (f := 36) rfl ?_); refine goesL_ (some 96) rfl rfl Tryd.func36 (by kernel_rfl) rfl #[.int .u64 x15_3, .int .u64 t220] rfl (by (try simp only [List.map_toArray, List.map_cons, List.map_nil]); first | done | rfl | (simp only [List.length_drop, List.length_take]; rfl)) ?_; (with_reducible refine (gold_Mul.calls x15_3 t220 t228 _ A45.out).mono ?_); rintro e w48 ⟨rfl, hb⟩; refine ⟨_, rfl, ?_⟩; have n0_ := Aside0.mk (Kd.R_below (by (with_reducible repeat (first | apply Kd.R_alloc | apply Kd.R_drewN | apply Kd.R_drew)); exact HO227.out) hb); have n1_ := Aside0.mk (blk_below (g := gb212) (o := .cells #[.int .i64 a1_0, .int .i64 a1_1, .int .i64 a1_2, .int .i64 a1_3] 49 (0, 0)) (by (with_reducible repeat (first | refine blk_drewN ?_ _ | refine blk_drew ?_ | refine blk_alloc ?_ _)); exact BK212.out) hb); have n2_ := Aside0.mk (below_step (by repeat (first | (with_reducible first | exact HB.out | apply below_alloc | apply pw_below_drewN | apply below_drew1 | refine below_set ?_ GE212.out) | exact HB.out)) hb); clear HO227; clear BK212; clear HB; have HO227 := n0_; have BK212 := n1_; have HB := n2_; clear n0_ n1_ n2_; (try clear hb); (try clear hb2); (try clear hk); (try clear hi)) | (go_at_call 36; (with_reducible refine (gold_Mul.calls x15_3 t220 t228 _ A45.out).mono ?_); rintro e w48 ⟨rfl, hb⟩; have n0_ := Aside0.mk (Kd.R_below (by (with_reducible repeat (first | apply Kd.R_alloc | apply Kd.R_drewN | apply Kd.R_drew)); exact HO227.out) hb); have n1_ := Aside0.mk (blk_below (g := gb212) (o := .cells #[.int .i64 a1_0, .int .i64 a1_1, .int .i64 a1_2, .int .i64 a1_3] 49 (0, 0)) (by (with_reducible repeat (first | refine blk_drewN ?_ _ | refine blk_drew ?_ | refine blk_alloc ?_ _)); exact BK212.out) hb); have n2_ := Aside0.mk (below_step (by repeat (first | (with_reducible first | exact HB.out | apply below_alloc | apply pw_below_drewN | apply below_drew1 | refine below_set ?_ GE212.out) | exact HB.out)) hb); clear HO227; clear BK212; clear HB; have HO227 := n0_; have BK212 := n1_; have HB := n2_; clear n0_ n1_ n2_; (try clear hb); (try clear hb2); (try clear hk); (try clear hi)))
                                        (first | go_roundg k3 | (simp only [add_plain] at *; go_roundg k3))
                                        case measure => have := HJ6.out; have := HK2.out; have := HK3.out; omega
                                        case rel => exact ⟨(y225), (t228), (wrap64 (x84_3 + 1)), (by first | rfl | (simp; done) | (simp [*]; done)), (by first | rfl | (simp; done) | (simp [*]; done)), H', ⟨by have := HJ6.out; have := HK2.out; have := HK3.out; omega⟩, ⟨by (with_reducible repeat (first | apply Kd.R_alloc | apply Kd.R_drewN | apply Kd.R_drew)); exact HO227.out⟩, ⟨by (with_reducible repeat (first | refine blk_drewN ?_ _ | refine blk_drew ?_ | refine blk_alloc ?_ _)); exact BK212.out⟩, ⟨by repeat (first | (with_reducible first | exact HB.out | apply below_alloc | apply pw_below_drewN | apply below_drew1 | refine below_set ?_ GE212.out) | exact HB.out)⟩⟩
                                      · rw [if_neg c44] at H
                                        exact absurd H (by simp)
                                    · rw [if_neg c42] at H
                                      exact absurd H (by simp)
                                  · rw [if_neg c41] at H
                                    exact absurd H (by simp)
                                · rw [if_neg c40] at H
                                  have c40b0 : decide (x84_3 < (((l0.take ((wrap64 ((wrap64 (x55_2 + 1)) * a1_1)) : Int).toNat).drop ((ji30) : Int).toNat).length : Int)) = false := decide_eq_false c40
                                  (try (have c40b0_0 := c40b0; rw [LTc20.out] at c40b0_0))
                                  (try (have c40b0_1 := c40b0; rw [LDc20.out] at c40b0_1))
                                  (try (have c40b0_2 := c40b0; rw [LTc33.out] at c40b0_2))
                                  (try (have c40b0_3 := c40b0; rw [LDc33.out] at c40b0_3))
                                  clear c40
                                  have H' := Aside0.mk H
                                  clear H
                                  go_wp2
                                  (first | go_roundg k3 | (simp only [add_plain] at *; go_roundg k3))
                                  case measure => have := HJ6.out; have := HK2.out; have := HK3.out; omega
                                  case rel => exact ⟨(x12_3), (wrap64 (x55_2 + 1)), (by first | rfl | (simp; done) | (simp [*]; done)), H', ⟨by have := HJ6.out; have := HK2.out; have := HK3.out; omega⟩, ⟨by (with_reducible repeat (first | apply Kd.R_alloc | apply Kd.R_drewN | apply Kd.R_drew)); exact HO_12.out⟩, ⟨by (with_reducible repeat (first | refine blk_drewN ?_ _ | refine blk_drew ?_ | refine blk_alloc ?_ _)); exact BK212.out⟩, ⟨by repeat (first | (with_reducible first | exact HB.out | apply below_alloc | apply pw_below_drewN | apply below_drew1 | refine below_set ?_ GE212.out) | exact HB.out)⟩⟩
                          · rw [if_neg c33] at H
                            exact absurd H (by simp)
                        · rw [if_neg c32] at H
                          exact absurd H (by simp)
                      · rw [if_neg c31] at H
                        exact absurd H (by simp)
                    · rw [if_neg c27] at H
                      have c27b0 : decide (x55_2 < a1_0) = false := decide_eq_false c27
                      clear c27
                      simp only [Option.some.injEq, Prod.mk.injEq] at H
                      obtain ⟨rfl, rfl⟩ := H
                      go_wp2
                      go_ret2
                      exact ⟨_, by first | rfl | (simp [errW_none, errW_some] <;> rfl) | (simp [*, errW_none, errW_some] <;> rfl), by (with_reducible repeat (first | apply Kd.R_alloc | apply Kd.R_drewN | apply Kd.R_drew)); exact HO_12.out, by repeat (first | (with_reducible first | exact HB.out | apply below_alloc | apply pw_below_drewN | apply below_drew1 | refine below_set ?_ GE212.out) | exact HB.out)⟩
              · rw [if_neg c21] at H
                exact absurd H (by simp)
            · rw [if_neg c20] at H
              exact absurd H (by simp)
          · replace c19 := Bool.eq_false_iff.mpr c19
            subst c19
            have H1 : (some (([] : List Int), 2)) = some (r1, r2) := by rw [if_neg (show ¬ (false = true) by decide)] at H; exact H
            clear H
            have H := H1
            clear H1
            simp only [Option.some.injEq, Prod.mk.injEq] at H
            obtain ⟨rfl, rfl⟩ := H
            have hcz49_0 : wc.cell? ⟨gb212, 0, none⟩ = some (.int .i64 a1_0) := (blk_cell BK212.out 0).trans rfl
            have hcz49_1 : wc.cell? ⟨gb212, 1, none⟩ = some (.int .i64 a1_1) := (blk_cell BK212.out 1).trans rfl
            have hcz49_2 : wc.cell? ⟨gb212, 2, none⟩ = some (.int .i64 a1_2) := (blk_cell BK212.out 2).trans rfl
            have hcz49_3 : wc.cell? ⟨gb212, 3, none⟩ = some (.int .i64 a1_3) := (blk_cell BK212.out 3).trans rfl
            have hfz49_0 := blk_frozen BK212.out 0
            have hfz49_1 := blk_frozen BK212.out 1
            have hfz49_2 := blk_frozen BK212.out 2
            have hfz49_3 := blk_frozen BK212.out 3
            go_wp2_with (first | ((with_reducible refine gate_callee (f := 44) rfl ?_); refine goesL_ (some 47) rfl rfl Tryd.func44 (by kernel_rfl) rfl #[.agg #[.int .i64 a1_0, .int .i64 a1_1, .int .i64 a1_2, .int .i64 a1_3]] rfl (by (try simp only [List.map_toArray, List.map_cons, List.map_nil]); first | done | rfl | (simp only [List.length_drop, List.length_take]; rfl)) ?_; (with_reducible refine (twid_reaches.calls a1_0 a1_1 a1_2 a1_3 false _ A18.out).mono ?_); rintro e w50 ⟨rfl, hb⟩; refine ⟨_, rfl, ?_⟩; have n0_ := Aside0.mk (blk_below (g := gb212) (o := .cells #[.int .i64 a1_0, .int .i64 a1_1, .int .i64 a1_2, .int .i64 a1_3] 49 (0, 0)) (by (with_reducible repeat (first | refine blk_drewN ?_ _ | refine blk_drew ?_ | refine blk_alloc ?_ _)); exact BK212.out) hb); have n1_ := Aside0.mk (below_step (by repeat (first | (with_reducible first | exact HB.out | apply below_alloc | apply pw_below_drewN | apply below_drew1 | refine below_set ?_ GE212.out) | exact HB.out)) hb); clear BK212; clear HB; have BK212 := n0_; have HB := n1_; clear n0_ n1_; (try clear hb); (try clear hb2); (try clear hk); (try clear hi)) | (go_at_call 44; (with_reducible refine (twid_reaches.calls a1_0 a1_1 a1_2 a1_3 false _ A18.out).mono ?_); rintro e w50 ⟨rfl, hb⟩; have n0_ := Aside0.mk (blk_below (g := gb212) (o := .cells #[.int .i64 a1_0, .int .i64 a1_1, .int .i64 a1_2, .int .i64 a1_3] 49 (0, 0)) (by (with_reducible repeat (first | refine blk_drewN ?_ _ | refine blk_drew ?_ | refine blk_alloc ?_ _)); exact BK212.out) hb); have n1_ := Aside0.mk (below_step (by repeat (first | (with_reducible first | exact HB.out | apply below_alloc | apply pw_below_drewN | apply below_drew1 | refine below_set ?_ GE212.out) | exact HB.out)) hb); clear BK212; clear HB; have BK212 := n0_; have HB := n1_; clear n0_ n1_; (try clear hb); (try clear hb2); (try clear hk); (try clear hi)))
            go_ret2
            exact ⟨_, by first | rfl | (simp [errW_none, errW_some] <;> rfl) | (simp [*, errW_none, errW_some] <;> rfl), by first | exact Kd.R_nil _ _ _ _ _ | exact Kd.N_nil _ _ _ _ _ | exact Kd.V_nil _ _ _ _ _ | exact Kd.Q_nil _ _ _ _ _ | exact Kd.S_nil _ _ _ _ _, by repeat (first | (with_reducible first | exact HB.out | apply below_alloc | apply pw_below_drewN | apply below_drew1 | refine below_set ?_ GE212.out) | exact HB.out)⟩
  · rw [if_neg c6] at H
    have c6b0 : (t214 == 0) = false := beq_eq_false_iff_ne.mpr c6
    have c6b1 : (t214 != 0) = true := bne_iff_ne.mpr c6
    simp only [Option.some.injEq, Prod.mk.injEq] at H
    obtain ⟨rfl, rfl⟩ := H
    go_enter Tryd.func25, Tryd.ntmps25
    go_wp2_with (first | ((with_reducible refine gate_dst (N := 5) rfl ?_); (try (refine gate_guard (by rfl) ?_; dsimp only)); refine box_event ?hg (N := 5) ?hd (cs := #[.int .i64 a1_0, .int .i64 a1_1, .int .i64 a1_2, .int .i64 a1_3]) (t := 49) ?hr ?_; (case hd => rfl); (case hg => rfl); (case hr => first | (go_simp; done) | (go_simp; rfl)); intro gb212 hg w51 hbox hb; have n0_ := Aside0.mk (below_step (by repeat (first | (with_reducible first | exact HB.out | apply below_alloc | apply pw_below_drewN | apply below_drew1) | exact HB.out)) hb); have n1_ := Aside0.mk (hbox); have n2_ := Aside0.mk ((by rw [hg]; exact (below_size (by repeat (first | (with_reducible first | exact HB.out | apply below_alloc | apply pw_below_drewN | apply below_drew1) | exact HB.out))) : w.heap.size ≤ gb212)); have n3_ := Aside0.mk ((by rw [hg]; exact (below_size (by repeat (first | (with_reducible first | exact HB.out | apply below_alloc | apply pw_below_drewN | apply below_drew1) | exact HB.out))) : w.heap.size ≤ gb212)); clear HB; have HB := n0_; have BK212 := n1_; have GW212 := n2_; have GE212 := n3_; clear n0_ n1_ n2_ n3_; clear hb hbox hg) | ((with_reducible refine gate_callee (f := 16) rfl ?_); refine goesL_ (some 21) rfl rfl Tryd.func16 (by kernel_rfl) rfl #[.int .i64 a2, .int .i64 a3] rfl (by (try simp only [List.map_toArray, List.map_cons, List.map_nil]); first | done | rfl | (simp only [List.length_drop, List.length_take]; rfl)) ?_; (with_reducible refine (twid_Root.calls k a2 a3 t213 t214 _ A5.out).mono ?_); rintro e w52 ⟨rfl, hb⟩; refine ⟨_, rfl, ?_⟩; have n0_ := Aside0.mk (blk_below (g := gb212) (o := .cells #[.int .i64 a1_0, .int .i64 a1_1, .int .i64 a1_2, .int .i64 a1_3] 49 (0, 0)) (by (with_reducible repeat (first | refine blk_drewN ?_ _ | refine blk_drew ?_ | refine blk_alloc ?_ _)); exact BK212.out) hb); have n1_ := Aside0.mk (below_step (by repeat (first | (with_reducible first | exact HB.out | apply below_alloc | apply pw_below_drewN | apply below_drew1 | refine below_set ?_ GE212.out) | exact HB.out)) hb); clear BK212; clear HB; have BK212 := n0_; have HB := n1_; clear n0_ n1_; (try clear hb); (try clear hb2); (try clear hk); (try clear hi)) | (go_at_call 16; (with_reducible refine (twid_Root.calls k a2 a3 t213 t214 _ A5.out).mono ?_); rintro e w52 ⟨rfl, hb⟩; have n0_ := Aside0.mk (blk_below (g := gb212) (o := .cells #[.int .i64 a1_0, .int .i64 a1_1, .int .i64 a1_2, .int .i64 a1_3] 49 (0, 0)) (by (with_reducible repeat (first | refine blk_drewN ?_ _ | refine blk_drew ?_ | refine blk_alloc ?_ _)); exact BK212.out) hb); have n1_ := Aside0.mk (below_step (by repeat (first | (with_reducible first | exact HB.out | apply below_alloc | apply pw_below_drewN | apply below_drew1 | refine below_set ?_ GE212.out) | exact HB.out)) hb); clear BK212; clear HB; have BK212 := n0_; have HB := n1_; clear n0_ n1_; (try clear hb); (try clear hb2); (try clear hk); (try clear hi)))
    go_ret2
    exact ⟨_, by first | rfl | (simp [errW_none, errW_some] <;> rfl) | (simp [*, errW_none, errW_some] <;> rfl), by first | exact Kd.R_nil _ _ _ _ _ | exact Kd.N_nil _ _ _ _ _ | exact Kd.V_nil _ _ _ _ _ | exact Kd.Q_nil _ _ _ _ _ | exact Kd.S_nil _ _ _ _ _, by repeat (first | (with_reducible first | exact HB.out | apply below_alloc | apply pw_below_drewN | apply below_drew1 | refine below_set ?_ GE212.out) | exact HB.out)⟩

/-! ### abacistref03_Fits: function 9 -/
def abacistref03_Fits.l0 : Nat → Int → Int → Int → Option (Int)
  | 0, _, _, _ => none
  | k + 1, x0, x3, x4 => if x4 ≤ 32 then (if x0 = x3 then (some x4) else (abacistref03_Fits.l0 k x0 (wrap64 (2 * x3)) (wrap64 (x4 + 1)))) else (some (-1))
def abacistref03_Fits.f (k : Nat) (a0 : Int) : Option (Int) := abacistref03_Fits.l0 k a0 1 0
theorem abacistref03_Fits.mono_l : ∀ k, (∀ y0 y1 y2, LeO (abacistref03_Fits.l0 k y0 y1 y2) (abacistref03_Fits.l0 (k + 1) y0 y1 y2))
  | 0 => fun _ _ _ r h => by simp [abacistref03_Fits.l0] at h
  | k + 1 => by
    have ih0 := abacistref03_Fits.mono_l k
    · intro y0 y1 y2
      unfold abacistref03_Fits.l0
      repeat' first
      | (with_reducible exact ih0 _ _ _)
      | (with_reducible exact LeO.refl _)
      | (with_reducible exact LeO.none _)
      | (with_reducible refine LeO.ite ?_ ?_)
      | (with_reducible refine LeO.bind ?_ (fun _ => ?_))
      | exact ih0 _ _ _
      | exact LeO.none _
      | refine LeO.ite ?_ ?_
      | refine LeO.bind ?_ (fun _ => ?_)
theorem abacistref03_Fits.mono : ∀ a0 k, LeO (abacistref03_Fits.f k a0) (abacistref03_Fits.f (k + 1) a0) := by
  intro a0 k
  have ih0 := abacistref03_Fits.mono_l k
  unfold abacistref03_Fits.f
  repeat' first
      | (with_reducible exact ih0 _ _ _)
      | (with_reducible exact LeO.refl _)
      | (with_reducible exact LeO.none _)
      | (with_reducible refine LeO.ite ?_ ?_)
      | (with_reducible refine LeO.bind ?_ (fun _ => ?_))
      | exact ih0 _ _ _
      | exact LeO.none _
      | refine LeO.ite ?_ ?_
      | refine LeO.bind ?_ (fun _ => ?_)
set_option maxHeartbeats 8000000 in
set_option maxRecDepth 100000 in
theorem abacistref03_Fits.calls (k : Nat) (a0 : Int) (r : Int) (w : World) (h : abacistref03_Fits.f k a0 = some r) :
    Calls Tryd.prog 9 #[.int .i64 a0] w fun e w' => e = .returned (.int .i64 r) ∧ Drawn0 w w' := by
  have H : (abacistref03_Fits.l0 k a0 1 0) = some r := h
  clear h
  have H' := Aside0.mk H
  clear H
  go_enter Tryd.func9, Tryd.ntmps9
  go_wp2
  go_loopg [3, 4] k (fun kq v3 v4 w' => ∃ (x3_1 : Int) (x4_1 : Int), v3 = .int .i64 x3_1 ∧ v4 = .int .i64 x4_1 ∧ Aside0 (abacistref03_Fits.l0 kq a0 x3_1 x4_1 = some r) ∧ Aside0 (kq ≤ k) ∧ Drawn0 w w')
  case atStart => exact ⟨(1), (0), (by first | rfl | (simp; done) | (simp [*]; done)), (by first | rfl | (simp; done) | (simp [*]; done)), H', ⟨Nat.le_refl _⟩, by repeat (first | exact Drawn0.refl _ | apply Drawn0.step)⟩
  case round =>
    clear H'
    obtain ⟨x3_1, x4_1, rfl, rfl, HA, HK1, ⟨m1, rfl⟩⟩ := hrel
    cases gk with
    | zero => exact absurd HA.out (by simp [abacistref03_Fits.l0])
    | succ k1 =>
      have H := HA.out
      clear HA
      simp only [abacistref03_Fits.l0] at H
      by_cases c2 : x4_1 ≤ 32
      · rw [if_pos c2] at H
        have c2b0 : decide (x4_1 ≤ 32) = true := decide_eq_true c2
        clear c2
        by_cases c3 : a0 = x3_1
        · rw [if_pos c3] at H
          have c3b0 : (a0 == x3_1) = true := beq_iff_eq.mpr c3
          have c3b1 : (a0 != x3_1) = false := bne_eq_false_iff_eq.mpr c3
          clear c3
          obtain rfl := Option.some.inj H
          go_wp2
          go_ret
          exact ⟨by first | rfl | (simp; done) | (simp [*]; done), by repeat (first | exact Drawn0.refl _ | apply Drawn0.step)⟩
        · rw [if_neg c3] at H
          have c3b0 : (a0 == x3_1) = false := beq_eq_false_iff_ne.mpr c3
          have c3b1 : (a0 != x3_1) = true := bne_iff_ne.mpr c3
          have H' := Aside0.mk H
          clear H
          go_wp2
          (first | go_roundg k1 | (simp only [add_plain] at *; go_roundg k1))
          case measure => have := HK1.out; omega
          case rel => exact ⟨(wrap64 (2 * x3_1)), (wrap64 (x4_1 + 1)), (by first | rfl | (simp; done) | (simp [*]; done)), (by first | rfl | (simp; done) | (simp [*]; done)), H', ⟨by have := HK1.out; omega⟩, by repeat (first | exact Drawn0.refl _ | apply Drawn0.step)⟩
      · rw [if_neg c2] at H
        have c2b0 : decide (x4_1 ≤ 32) = false := decide_eq_false c2
        clear c2
        obtain rfl := Option.some.inj H
        go_wp2
        go_ret
        exact ⟨by first | rfl | (simp; done) | (simp [*]; done), by repeat (first | exact Drawn0.refl _ | apply Drawn0.step)⟩

/-! ### abacistref06_Good: function 26 -/
def abacistref06_Good.f (k : Nat) (a0_0 : Int) (a0_1 : Int) : Option (Bool) := (abacistref03_Fits.f k a0_0).bind fun t230 => ((abacistref03_Fits.f k a0_1).bind fun t231 => (if t230 ≥ 0 then (if t231 ≥ 0 then (some (decide ((wrap64 (t230 + t231)) ≤ 32))) else (some false)) else (some false)))
theorem abacistref06_Good.mono : ∀ a0 a1 k, LeO (abacistref06_Good.f k a0 a1) (abacistref06_Good.f (k + 1) a0 a1) := by
  intro a0 a1 k
  unfold abacistref06_Good.f
  repeat' first
      | (with_reducible exact abacistref03_Fits.mono _ _)
      | (with_reducible exact LeO.refl _)
      | (with_reducible exact LeO.none _)
      | (with_reducible refine LeO.ite ?_ ?_)
      | (with_reducible refine LeO.bind ?_ (fun _ => ?_))
      | exact abacistref03_Fits.mono _ _
      | exact LeO.none _
      | refine LeO.ite ?_ ?_
      | refine LeO.bind ?_ (fun _ => ?_)
set_option maxHeartbeats 8000000 in
set_option maxRecDepth 100000 in
theorem abacistref06_Good.calls (k : Nat) (a0_0 : Int) (a0_1 : Int) (r : Bool) (w : World) (h : abacistref06_Good.f k a0_0 a0_1 = some r) :
    Calls Tryd.prog 26 #[.agg #[.int .i64 a0_0, .int .i64 a0_1]] w fun e w' => e = .returned (.bool r) ∧ Below w.heap.size w w' := by
  have hu47 := Tryd.underlying47
  have HB := Aside0.mk (Below.refl w.heap.size w)
  have H : ((abacistref03_Fits.f k a0_0).bind fun t230 => ((abacistref03_Fits.f k a0_1).bind fun t231 => (if t230 ≥ 0 then (if t231 ≥ 0 then (some (decide ((wrap64 (t230 + t231)) ≤ 32))) else (some false)) else (some false)))) = some r := h
  clear h
  replace H := Option.bind_eq_some_iff.mp H
  obtain ⟨t230, A20, H⟩ := H
  replace H : ((abacistref03_Fits.f k a0_1).bind fun t231 => (if t230 ≥ 0 then (if t231 ≥ 0 then (some (decide ((wrap64 (t230 + t231)) ≤ 32))) else (some false)) else (some false))) = some r := H
  have A2 := Aside0.mk A20
  clear A20
  replace H := Option.bind_eq_some_iff.mp H
  obtain ⟨t231, A30, H⟩ := H
  replace H : (if t230 ≥ 0 then (if t231 ≥ 0 then (some (decide ((wrap64 (t230 + t231)) ≤ 32))) else (some false)) else (some false)) = some r := H
  have A3 := Aside0.mk A30
  clear A30
  by_cases c4 : t230 ≥ 0
  · rw [if_pos c4] at H
    have c4b0 : decide (0 ≤ t230) = true := decide_eq_true c4
    clear c4
    by_cases c5 : t231 ≥ 0
    · rw [if_pos c5] at H
      have c5b0 : decide (0 ≤ t231) = true := decide_eq_true c5
      clear c5
      obtain rfl := Option.some.inj H
      go_enter Tryd.func26, Tryd.ntmps26
      go_wp2_with (first | ((with_reducible refine gate_dst (N := 1) rfl ?_); refine box_event ?hg (N := 1) ?hd (cs := #[.int .i64 a0_0, .int .i64 a0_1]) (t := 47) ?hr ?_; (case hd => rfl); (case hg => rfl); (case hr => first | (go_simp; done) | (go_simp; rfl)); intro gb229 hg w6 hbox hb; have n0_ := Aside0.mk (below_step (by repeat (first | (with_reducible first | exact HB.out | apply below_alloc | apply pw_below_drewN | apply below_drew1) | exact HB.out)) hb); have n1_ := Aside0.mk (hbox); have n2_ := Aside0.mk ((by rw [hg]; exact (below_size (by repeat (first | (with_reducible first | exact HB.out | apply below_alloc | apply pw_below_drewN | apply below_drew1) | exact HB.out))) : w.heap.size ≤ gb229)); have n3_ := Aside0.mk ((by rw [hg]; exact (below_size (by repeat (first | (with_reducible first | exact HB.out | apply below_alloc | apply pw_below_drewN | apply below_drew1) | exact HB.out))) : w.heap.size ≤ gb229)); clear HB; have HB := n0_; have BK229 := n1_; have GW229 := n2_; have GE229 := n3_; clear n0_ n1_ n2_ n3_; clear hb hbox hg; have hcz7_0 : w6.cell? ⟨gb229, 0, none⟩ = some (.int .i64 a0_0) := (blk_cell BK229.out 0).trans rfl; have hcz7_1 : w6.cell? ⟨gb229, 1, none⟩ = some (.int .i64 a0_1) := (blk_cell BK229.out 1).trans rfl; have hfz7_0 := blk_frozen BK229.out 0; have hfz7_1 := blk_frozen BK229.out 1) | ((with_reducible refine gate_callee (f := 9) rfl ?_); refine goesL_ (some 7) rfl rfl Tryd.func9 (by kernel_rfl) rfl #[.int .i64 a0_0] rfl (by (try simp only [List.map_toArray, List.map_cons, List.map_nil]); first | done | rfl | (simp only [List.length_drop, List.length_take]; rfl)) ?_; (with_reducible refine (abacistref03_Fits.calls k a0_0 t230 _ A2.out).mono ?_); rintro e w' ⟨rfl, ⟨nd, rfl⟩⟩; refine ⟨_, rfl, ?_⟩) | ((with_reducible refine gate_callee (f := 9) rfl ?_); refine goesL_ (some 10) rfl rfl Tryd.func9 (by kernel_rfl) rfl #[.int .i64 a0_1] rfl (by (try simp only [List.map_toArray, List.map_cons, List.map_nil]); first | done | rfl | (simp only [List.length_drop, List.length_take]; rfl)) ?_; (with_reducible refine (abacistref03_Fits.calls k a0_1 t231 _ A3.out).mono ?_); rintro e w' ⟨rfl, ⟨nd, rfl⟩⟩; refine ⟨_, rfl, ?_⟩))
      go_ret
      exact ⟨by first | rfl | (simp [errW_none, errW_some] <;> rfl) | (simp [*, errW_none, errW_some] <;> rfl), by repeat (first | (with_reducible first | exact HB.out | apply below_alloc | apply pw_below_drewN | apply below_drew1 | refine below_set ?_ GE229.out) | exact HB.out)⟩
    · rw [if_neg c5] at H
      have c5b0 : decide (0 ≤ t231) = false := decide_eq_false c5
      clear c5
      obtain rfl := Option.some.inj H
      go_enter Tryd.func26, Tryd.ntmps26
      go_wp2_with (first | ((with_reducible refine gate_dst (N := 1) rfl ?_); refine box_event ?hg (N := 1) ?hd (cs := #[.int .i64 a0_0, .int .i64 a0_1]) (t := 47) ?hr ?_; (case hd => rfl); (case hg => rfl); (case hr => first | (go_simp; done) | (go_simp; rfl)); intro gb229 hg w8 hbox hb; have n0_ := Aside0.mk (below_step (by repeat (first | (with_reducible first | exact HB.out | apply below_alloc | apply pw_below_drewN | apply below_drew1) | exact HB.out)) hb); have n1_ := Aside0.mk (hbox); have n2_ := Aside0.mk ((by rw [hg]; exact (below_size (by repeat (first | (with_reducible first | exact HB.out | apply below_alloc | apply pw_below_drewN | apply below_drew1) | exact HB.out))) : w.heap.size ≤ gb229)); have n3_ := Aside0.mk ((by rw [hg]; exact (below_size (by repeat (first | (with_reducible first | exact HB.out | apply below_alloc | apply pw_below_drewN | apply below_drew1) | exact HB.out))) : w.heap.size ≤ gb229)); clear HB; have HB := n0_; have BK229 := n1_; have GW229 := n2_; have GE229 := n3_; clear n0_ n1_ n2_ n3_; clear hb hbox hg; have hcz9_0 : w8.cell? ⟨gb229, 0, none⟩ = some (.int .i64 a0_0) := (blk_cell BK229.out 0).trans rfl; have hcz9_1 : w8.cell? ⟨gb229, 1, none⟩ = some (.int .i64 a0_1) := (blk_cell BK229.out 1).trans rfl; have hfz9_0 := blk_frozen BK229.out 0; have hfz9_1 := blk_frozen BK229.out 1) | ((with_reducible refine gate_callee (f := 9) rfl ?_); refine goesL_ (some 7) rfl rfl Tryd.func9 (by kernel_rfl) rfl #[.int .i64 a0_0] rfl (by (try simp only [List.map_toArray, List.map_cons, List.map_nil]); first | done | rfl | (simp only [List.length_drop, List.length_take]; rfl)) ?_; (with_reducible refine (abacistref03_Fits.calls k a0_0 t230 _ A2.out).mono ?_); rintro e w' ⟨rfl, ⟨nd, rfl⟩⟩; refine ⟨_, rfl, ?_⟩) | ((with_reducible refine gate_callee (f := 9) rfl ?_); refine goesL_ (some 10) rfl rfl Tryd.func9 (by kernel_rfl) rfl #[.int .i64 a0_1] rfl (by (try simp only [List.map_toArray, List.map_cons, List.map_nil]); first | done | rfl | (simp only [List.length_drop, List.length_take]; rfl)) ?_; (with_reducible refine (abacistref03_Fits.calls k a0_1 t231 _ A3.out).mono ?_); rintro e w' ⟨rfl, ⟨nd, rfl⟩⟩; refine ⟨_, rfl, ?_⟩))
      go_ret
      exact ⟨by first | rfl | (simp [errW_none, errW_some] <;> rfl) | (simp [*, errW_none, errW_some] <;> rfl), by repeat (first | (with_reducible first | exact HB.out | apply below_alloc | apply pw_below_drewN | apply below_drew1 | refine below_set ?_ GE229.out) | exact HB.out)⟩
  · rw [if_neg c4] at H
    have c4b0 : decide (0 ≤ t230) = false := decide_eq_false c4
    clear c4
    obtain rfl := Option.some.inj H
    go_enter Tryd.func26, Tryd.ntmps26
    go_wp2_with (first | ((with_reducible refine gate_dst (N := 1) rfl ?_); refine box_event ?hg (N := 1) ?hd (cs := #[.int .i64 a0_0, .int .i64 a0_1]) (t := 47) ?hr ?_; (case hd => rfl); (case hg => rfl); (case hr => first | (go_simp; done) | (go_simp; rfl)); intro gb229 hg w10 hbox hb; have n0_ := Aside0.mk (below_step (by repeat (first | (with_reducible first | exact HB.out | apply below_alloc | apply pw_below_drewN | apply below_drew1) | exact HB.out)) hb); have n1_ := Aside0.mk (hbox); have n2_ := Aside0.mk ((by rw [hg]; exact (below_size (by repeat (first | (with_reducible first | exact HB.out | apply below_alloc | apply pw_below_drewN | apply below_drew1) | exact HB.out))) : w.heap.size ≤ gb229)); have n3_ := Aside0.mk ((by rw [hg]; exact (below_size (by repeat (first | (with_reducible first | exact HB.out | apply below_alloc | apply pw_below_drewN | apply below_drew1) | exact HB.out))) : w.heap.size ≤ gb229)); clear HB; have HB := n0_; have BK229 := n1_; have GW229 := n2_; have GE229 := n3_; clear n0_ n1_ n2_ n3_; clear hb hbox hg; have hcz11_0 : w10.cell? ⟨gb229, 0, none⟩ = some (.int .i64 a0_0) := (blk_cell BK229.out 0).trans rfl; have hcz11_1 : w10.cell? ⟨gb229, 1, none⟩ = some (.int .i64 a0_1) := (blk_cell BK229.out 1).trans rfl; have hfz11_0 := blk_frozen BK229.out 0; have hfz11_1 := blk_frozen BK229.out 1) | ((with_reducible refine gate_callee (f := 9) rfl ?_); refine goesL_ (some 7) rfl rfl Tryd.func9 (by kernel_rfl) rfl #[.int .i64 a0_0] rfl (by (try simp only [List.map_toArray, List.map_cons, List.map_nil]); first | done | rfl | (simp only [List.length_drop, List.length_take]; rfl)) ?_; (with_reducible refine (abacistref03_Fits.calls k a0_0 t230 _ A2.out).mono ?_); rintro e w' ⟨rfl, ⟨nd, rfl⟩⟩; refine ⟨_, rfl, ?_⟩) | ((with_reducible refine gate_callee (f := 9) rfl ?_); refine goesL_ (some 10) rfl rfl Tryd.func9 (by kernel_rfl) rfl #[.int .i64 a0_1] rfl (by (try simp only [List.map_toArray, List.map_cons, List.map_nil]); first | done | rfl | (simp only [List.length_drop, List.length_take]; rfl)) ?_; (with_reducible refine (abacistref03_Fits.calls k a0_1 t231 _ A3.out).mono ?_); rintro e w' ⟨rfl, ⟨nd, rfl⟩⟩; refine ⟨_, rfl, ?_⟩))
    go_ret
    exact ⟨by first | rfl | (simp [errW_none, errW_some] <;> rfl) | (simp [*, errW_none, errW_some] <;> rfl), by repeat (first | (with_reducible first | exact HB.out | apply below_alloc | apply pw_below_drewN | apply below_drew1 | refine below_set ?_ GE229.out) | exact HB.out)⟩

/-! ### abacistref02_Of: function 42 -/
def abacistref02_Of.f (a0 : Int) : Option (Int) := some (Int.tmod a0 18446744069414584321)
set_option maxHeartbeats 8000000 in
set_option maxRecDepth 100000 in
theorem abacistref02_Of.calls (a0 : Int) (r : Int) (w : World) (h : abacistref02_Of.f a0 = some r) :
    Calls Tryd.prog 42 #[.int .u64 a0] w fun e w' => e = .returned (.int .u64 r) ∧ Drawn0 w w' := by
  have H : (some (Int.tmod a0 18446744069414584321)) = some r := h
  clear h
  obtain rfl := Option.some.inj H
  go_enter Tryd.func42, Tryd.ntmps42
  go_wp2
  go_ret
  exact ⟨by first | rfl | (simp; done) | (simp [*]; done), by repeat (first | exact Drawn0.refl _ | apply Drawn0.step)⟩

/-! ### abacistref02_Add: function 45 -/
def abacistref02_Add.f (a0 : Int) (a1 : Int) : Option (Int) := (abacistref02_Of.f a0).bind fun t232 => ((abacistref02_Of.f a1).bind fun t233 => (if t232 ≥ (IntKind.u64.wrap (18446744069414584321 - t233)) then (some (IntKind.u64.wrap (t232 - (IntKind.u64.wrap (18446744069414584321 - t233))))) else (some (IntKind.u64.wrap (t232 + t233)))))
set_option maxHeartbeats 8000000 in
set_option maxRecDepth 100000 in
theorem abacistref02_Add.calls (a0 : Int) (a1 : Int) (r : Int) (w : World) (h : abacistref02_Add.f a0 a1 = some r) :
    Calls Tryd.prog 45 #[.int .u64 a0, .int .u64 a1] w fun e w' => e = .returned (.int .u64 r) ∧ Drawn0 w w' := by
  have H : ((abacistref02_Of.f a0).bind fun t232 => ((abacistref02_Of.f a1).bind fun t233 => (if t232 ≥ (IntKind.u64.wrap (18446744069414584321 - t233)) then (some (IntKind.u64.wrap (t232 - (IntKind.u64.wrap (18446744069414584321 - t233))))) else (some (IntKind.u64.wrap (t232 + t233)))))) = some r := h
  clear h
  replace H := Option.bind_eq_some_iff.mp H
  obtain ⟨t232, A30, H⟩ := H
  replace H : ((abacistref02_Of.f a1).bind fun t233 => (if t232 ≥ (IntKind.u64.wrap (18446744069414584321 - t233)) then (some (IntKind.u64.wrap (t232 - (IntKind.u64.wrap (18446744069414584321 - t233))))) else (some (IntKind.u64.wrap (t232 + t233))))) = some r := H
  have A3 := Aside0.mk A30
  clear A30
  replace H := Option.bind_eq_some_iff.mp H
  obtain ⟨t233, A40, H⟩ := H
  replace H : (if t232 ≥ (IntKind.u64.wrap (18446744069414584321 - t233)) then (some (IntKind.u64.wrap (t232 - (IntKind.u64.wrap (18446744069414584321 - t233))))) else (some (IntKind.u64.wrap (t232 + t233)))) = some r := H
  have A4 := Aside0.mk A40
  clear A40
  by_cases c5 : t232 ≥ (IntKind.u64.wrap (18446744069414584321 - t233))
  · rw [if_pos c5] at H
    have c5b0 : decide ((IntKind.u64.wrap (18446744069414584321 - t233)) ≤ t232) = true := decide_eq_true c5
    clear c5
    obtain rfl := Option.some.inj H
    go_enter Tryd.func45, Tryd.ntmps45
    go_wp2_with (first | ((with_reducible refine gate_callee (f := 42) rfl ?_); refine goesL_ (some 6) rfl rfl Tryd.func42 (by kernel_rfl) rfl #[.int .u64 a0] rfl (by (try simp only [List.map_toArray, List.map_cons, List.map_nil]); first | done | rfl | (simp only [List.length_drop, List.length_take]; rfl)) ?_; (with_reducible refine (abacistref02_Of.calls a0 t232 _ A3.out).mono ?_); rintro e w' ⟨rfl, ⟨nd, rfl⟩⟩; refine ⟨_, rfl, ?_⟩) | ((with_reducible refine gate_callee (f := 42) rfl ?_); refine goesL_ (some 8) rfl rfl Tryd.func42 (by kernel_rfl) rfl #[.int .u64 a1] rfl (by (try simp only [List.map_toArray, List.map_cons, List.map_nil]); first | done | rfl | (simp only [List.length_drop, List.length_take]; rfl)) ?_; (with_reducible refine (abacistref02_Of.calls a1 t233 _ A4.out).mono ?_); rintro e w' ⟨rfl, ⟨nd, rfl⟩⟩; refine ⟨_, rfl, ?_⟩))
    go_ret
    exact ⟨by first | rfl | (simp; done) | (simp [*]; done), by repeat (first | exact Drawn0.refl _ | apply Drawn0.step)⟩
  · rw [if_neg c5] at H
    have c5b0 : decide ((IntKind.u64.wrap (18446744069414584321 - t233)) ≤ t232) = false := decide_eq_false c5
    clear c5
    obtain rfl := Option.some.inj H
    go_enter Tryd.func45, Tryd.ntmps45
    go_wp2_with (first | ((with_reducible refine gate_callee (f := 42) rfl ?_); refine goesL_ (some 6) rfl rfl Tryd.func42 (by kernel_rfl) rfl #[.int .u64 a0] rfl (by (try simp only [List.map_toArray, List.map_cons, List.map_nil]); first | done | rfl | (simp only [List.length_drop, List.length_take]; rfl)) ?_; (with_reducible refine (abacistref02_Of.calls a0 t232 _ A3.out).mono ?_); rintro e w' ⟨rfl, ⟨nd, rfl⟩⟩; refine ⟨_, rfl, ?_⟩) | ((with_reducible refine gate_callee (f := 42) rfl ?_); refine goesL_ (some 8) rfl rfl Tryd.func42 (by kernel_rfl) rfl #[.int .u64 a1] rfl (by (try simp only [List.map_toArray, List.map_cons, List.map_nil]); first | done | rfl | (simp only [List.length_drop, List.length_take]; rfl)) ?_; (with_reducible refine (abacistref02_Of.calls a1 t233 _ A4.out).mono ?_); rintro e w' ⟨rfl, ⟨nd, rfl⟩⟩; refine ⟨_, rfl, ?_⟩))
    go_ret
    exact ⟨by first | rfl | (simp; done) | (simp [*]; done), by repeat (first | exact Drawn0.refl _ | apply Drawn0.step)⟩

end Go.Proofs.YtlifdpaamcdmfaaDoor.PTwidTiles
