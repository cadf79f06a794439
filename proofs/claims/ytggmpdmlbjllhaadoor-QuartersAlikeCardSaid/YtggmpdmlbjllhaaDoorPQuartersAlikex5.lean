-- Written for this claim by wip/gen/mk.sh, this session's own driver over the kit's print
import Derived.Test.YtggmpdmlbjllhaaDoorPQuartersAlikex0
import Derived.Test.YtggmpdmlbjllhaaDoorPQuartersAlikex1
import Derived.Test.YtggmpdmlbjllhaaDoorPQuartersAlikex2
import Derived.Test.YtggmpdmlbjllhaaDoorPQuartersAlikex3
import Derived.Test.YtggmpdmlbjllhaaDoorPQuartersAlikex4
namespace Go.Proofs.YtggmpdmlbjllhaaDoor.PQuartersAlike
open Go.RowKit Go.Proofs.YtggmpdmlbjllhaaDoorW.PrintWords Go.Proofs.YtggmpdmlbjllhaaDoorW.PrintLast Go.Proofs.YtggmpdmlbjllhaaDoorW.PrintMore
attribute [local go_sem] max2_int min2_int max_two min_two max_three min_three max_four min_four   -- for this text's walks alone
set_option linter.unusedVariables false
set_option linter.unusedSimpArgs false

/-! ### kern4_New: function 28 (by hand) -/
set_option maxHeartbeats 8000000 in
set_option maxRecDepth 100000 in
theorem kern4_New.calls (k : Nat) (a : Int) (k0 k1 t0 t1 : List Int) (ke0 ke1 u0 u1 e0 e1 s es : Int) (w : World) (h0 : decide (a < 0) = false) (h1 : decide (20 < a) = false) (K0 : twid_Table.f k a 0 = some (k0, ke0)) (K1 : twid_Table.f k a 1 = some (k1, ke1)) (H0 : kern4_whole.f k a 0 = some t0) (H1 : kern4_whole.f k a 1 = some t1) (U0 : kern4_Unit.f k 0 = some (u0, e0)) (U1 : kern4_Unit.f k 1 = some (u1, e1)) (HS : twid_Share.f k a = some (s, es)) :
    Calls Tryd.prog 28 #[.int .i64 a] w fun e w' => ∃ (b b2 : Nat) (v0 v1 x0 x1 x2 : Value), e = .returned (.pointer (some ⟨b, 0, none⟩)) ∧ w.heap.size ≤ b ∧ w.heap.size ≤ b2 ∧ Below w.heap.size w w' ∧ w'.heap[b]? = some (.cells #[.pointer (some ⟨b2, 0, none⟩), v0, v1, .int .u64 u0, .int .u64 u1, .int .u64 s] 73 (0,0)) ∧ w'.heap[b2]? = some (.cells #[x0, x1, x2, .int .i64 a] 59 (0, 0)) ∧
      Kd.R (Kd.int .u64) 32 w' w.heap.size (fun j => j ≠ b) v0 t0 ∧ Kd.R (Kd.int .u64) 32 w' w.heap.size (fun j => j ≠ b) v1 t1 := by
  have A0 := Aside0.mk H0
  have A1 := Aside0.mk H1
  have AS := Aside0.mk HS
  have AU0 := Aside0.mk U0
  have AU1 := Aside0.mk U1
  have AK0 := Aside0.mk K0
  have AK1 := Aside0.mk K1
  clear H0 H1 HS U0 U1 K0 K1
  go_enter Tryd.func28, Tryd.ntmps28
  go_wp2_with ((go_at_call 22; (with_reducible refine (kern2_New.calls k a k0 k1 ke0 ke1 s es _ h0 h1 AK0.out AK1.out AS.out).mono ?_); rintro e w1 ⟨x0, x1, rfl, hB1, hX1, _, _⟩; have hB1 := Aside0.mk hB1; have hX1 := Aside0.mk hX1))
  have X := Aside0.mk (show (w1.alloc (.cells #[.pointer (some ⟨w.heap.size, 0, none⟩), .slice none 0 0, .slice none 0 0, .int .u64 0, .int .u64 0, .int .u64 0] 73)).heap[w1.heap.size]? = some (.cells #[.pointer (some ⟨w.heap.size, 0, none⟩), .slice none 0 0, .slice none 0 0, .int .u64 0, .int .u64 0, .int .u64 0] 73 (0, 0)) from Array.getElem?_push_size)
  have hbl := (Below.refl w1.heap.size w1).alloc (Nat.le_refl _) (.cells #[.pointer (some ⟨w.heap.size, 0, none⟩), .slice none 0 0, .slice none 0 0, .int .u64 0, .int .u64 0, .int .u64 0] 73)
  have X2 := Aside0.mk ((hbl.block _ (blk_lt hX1.out)).trans hX1.out)
  have B := Aside0.mk (hB1.out.trans (hbl.mono hB1.out.size))
  have Z := Aside0.mk (show w1.heap.size < (w1.alloc (.cells #[.pointer (some ⟨w.heap.size, 0, none⟩), .slice none 0 0, .slice none 0 0, .int .u64 0, .int .u64 0, .int .u64 0] 73)).heap.size by simp)
  have G := Aside0.mk hB1.out.size
  have hlt := blk_lt hX1.out
  clear hbl hB1 hX1
  obtain ⟨b2, hb2⟩ : ∃ b, b = w.heap.size := ⟨_, rfl⟩
  obtain ⟨b, hb⟩ : ∃ b, b = w1.heap.size := ⟨_, rfl⟩
  rw [← hb] at X Z G ⊢
  generalize w1.alloc (.cells #[.pointer (some ⟨w.heap.size, 0, none⟩), .slice none 0 0, .slice none 0 0, .int .u64 0, .int .u64 0, .int .u64 0] 73) = W1 at X X2 B Z ⊢
  rw [← hb2] at X X2 ⊢
  have HB2 := Aside0.mk hb2
  have HN2 := Aside0.mk (show b2 ≠ b by omega)
  clear hb2 hb hlt
  refine wp_loop_rounds 3 ?_
  rw [rounds_succ]
  go_wp2_with fail
  have c0 := hk_blk_cell X.out 1 _ rfl
  go_region_with ((go_at_call 50; (with_reducible refine (kern4_whole.calls k a 0 t0 _ A0.out).mono ?_); rintro e w2_0 ⟨v_, rfl, hR, hB⟩; obtain ⟨P0, q0, rfl⟩ := Kd.R_slice hR; have n0_ := (hB.block _ Z.out).trans X.out; clear c0; have f0 := hk_blk_frozen n0_ 1; have c0 := hk_blk_cell n0_ 1 _ rfl; have Y := Aside0.mk n0_; clear n0_; have hR := Aside0.mk hR; have hB := Aside0.mk hB))
  clear c0 f0
  have n0_ := Aside0.mk (blk_put Y.out 1 (.slice P0 t0.length q0) rfl)
  have n1_ := Aside0.mk (blk_far ((hB.out.block _ (blk_lt X2.out)).trans X2.out) (p := ⟨b, 1, none⟩) HN2.out (.slice P0 t0.length q0))
  have n2_ := Aside0.mk (below_set (j := 1) (v := (.slice P0 t0.length q0)) (B.out.drew.trans (hB.out.mono B.out.size)) G.out)
  have n3_ := Aside0.mk (show b < (w2_0.setCell ⟨b, 1, none⟩ (.slice P0 t0.length q0)).heap.size by have := hB.out.size; have := Z.out; simp at *; omega)
  have n4_ := Aside0.mk (Kd.R_lower (Kd.R_far (hk_R_out hR.out Z.out) (p := ⟨b, 1, none⟩) (fun k hk => hk) (.slice P0 t0.length q0)) G.out)
  clear X X2 B Z Y hR hB
  have X := n0_
  have X2 := n1_
  have B := n2_
  have Z := n3_
  have R0 := n4_
  clear n0_ n1_ n2_ n3_ n4_
  generalize w2_0.setCell ⟨b, 1, none⟩ (.slice P0 t0.length q0) = V0 at X X2 B Z R0 ⊢
  go_wp2_with ((go_at_call 49; (with_reducible refine (kern4_Unit.calls k 0 u0 e0 _ AU0.out).mono ?_); rintro e w3_0 ⟨rfl, hB⟩; have n0_ := (hB.block _ Z.out).trans X.out; have f0 := hk_blk_frozen n0_ 3; have c0 := hk_blk_cell n0_ 3 _ rfl; have Y := Aside0.mk n0_; clear n0_; have hB := Aside0.mk hB))
  clear c0 f0
  have n0_ := Aside0.mk (blk_put Y.out 3 (.int .u64 u0) rfl)
  have n1_ := Aside0.mk (blk_far ((hB.out.block _ (blk_lt X2.out)).trans X2.out) (p := ⟨b, 3, none⟩) HN2.out (.int .u64 u0))
  have n2_ := Aside0.mk (below_set (j := 3) (v := (.int .u64 u0)) (B.out.trans (hB.out.mono B.out.size)) G.out)
  have n3_ := Aside0.mk (show b < (w3_0.setCell ⟨b, 3, none⟩ (.int .u64 u0)).heap.size by have := hB.out.size; have := Z.out; simp; omega)
  have n4_ := Aside0.mk (Kd.R_far (Kd.R_below R0.out hB.out) (p := ⟨b, 3, none⟩) (fun k hk => hk) (.int .u64 u0))
  clear X X2 B Z Y hB R0
  have X := n0_
  have X2 := n1_
  have B := n2_
  have Z := n3_
  have R0 := n4_
  clear n0_ n1_ n2_ n3_ n4_
  generalize w3_0.setCell ⟨b, 3, none⟩ (.int .u64 u0) = U0_ at X X2 B Z R0 ⊢
  rw [rounds_succ]
  go_wp2_with fail
  have c0 := hk_blk_cell X.out 2 _ rfl
  go_region_with ((go_at_call 50; (with_reducible refine (kern4_whole.calls k a 1 t1 _ A1.out).mono ?_); rintro e w2_1 ⟨v_, rfl, hR, hB⟩; obtain ⟨P1, q1, rfl⟩ := Kd.R_slice hR; have n0_ := (hB.block _ Z.out).trans X.out; clear c0; have f0 := hk_blk_frozen n0_ 2; have c0 := hk_blk_cell n0_ 2 _ rfl; have Y := Aside0.mk n0_; clear n0_; have hR := Aside0.mk hR; have hB := Aside0.mk hB))
  clear c0 f0
  have n0_ := Aside0.mk (blk_put Y.out 2 (.slice P1 t1.length q1) rfl)
  have n1_ := Aside0.mk (blk_far ((hB.out.block _ (blk_lt X2.out)).trans X2.out) (p := ⟨b, 2, none⟩) HN2.out (.slice P1 t1.length q1))
  have n2_ := Aside0.mk (below_set (j := 2) (v := (.slice P1 t1.length q1)) (B.out.drew.trans (hB.out.mono B.out.size)) G.out)
  have n3_ := Aside0.mk (show b < (w2_1.setCell ⟨b, 2, none⟩ (.slice P1 t1.length q1)).heap.size by have := hB.out.size; have := Z.out; simp at *; omega)
  have n4_ := Aside0.mk (Kd.R_lower (Kd.R_far (hk_R_out hR.out Z.out) (p := ⟨b, 2, none⟩) (fun k hk => hk) (.slice P1 t1.length q1)) G.out)
  have n5_ := Aside0.mk (Kd.R_far (Kd.R_below (Kd.R_drew R0.out) hB.out) (p := ⟨b, 2, none⟩) (fun k hk => hk) (.slice P1 t1.length q1))
  clear X X2 B Z Y hR hB R0
  have X := n0_
  have X2 := n1_
  have B := n2_
  have Z := n3_
  have R1 := n4_
  have R0 := n5_
  clear n0_ n1_ n2_ n3_ n4_ n5_
  generalize w2_1.setCell ⟨b, 2, none⟩ (.slice P1 t1.length q1) = V1 at X X2 B Z R1 R0 ⊢
  go_wp2_with ((go_at_call 49; (with_reducible refine (kern4_Unit.calls k 1 u1 e1 _ AU1.out).mono ?_); rintro e w3_1 ⟨rfl, hB⟩; have n0_ := (hB.block _ Z.out).trans X.out; have f0 := hk_blk_frozen n0_ 4; have c0 := hk_blk_cell n0_ 4 _ rfl; have Y := Aside0.mk n0_; clear n0_; have hB := Aside0.mk hB))
  clear c0 f0
  have n0_ := Aside0.mk (blk_put Y.out 4 (.int .u64 u1) rfl)
  have n1_ := Aside0.mk (blk_far ((hB.out.block _ (blk_lt X2.out)).trans X2.out) (p := ⟨b, 4, none⟩) HN2.out (.int .u64 u1))
  have n2_ := Aside0.mk (below_set (j := 4) (v := (.int .u64 u1)) (B.out.trans (hB.out.mono B.out.size)) G.out)
  have n3_ := Aside0.mk (show b < (w3_1.setCell ⟨b, 4, none⟩ (.int .u64 u1)).heap.size by have := hB.out.size; have := Z.out; simp; omega)
  have n4_ := Aside0.mk (Kd.R_far (Kd.R_below R0.out hB.out) (p := ⟨b, 4, none⟩) (fun k hk => hk) (.int .u64 u1))
  have n5_ := Aside0.mk (Kd.R_far (Kd.R_below R1.out hB.out) (p := ⟨b, 4, none⟩) (fun k hk => hk) (.int .u64 u1))
  clear X X2 B Z Y hB R0 R1
  have X := n0_
  have X2 := n1_
  have B := n2_
  have Z := n3_
  have R0 := n4_
  have R1 := n5_
  clear n0_ n1_ n2_ n3_ n4_ n5_
  generalize w3_1.setCell ⟨b, 4, none⟩ (.int .u64 u1) = U1_ at X X2 B Z R0 R1 ⊢
  rw [rounds_succ]
  go_wp2_with ((go_at_call 42; (with_reducible refine (twid_Share.calls k a s es _ AS.out).mono ?_); rintro e w5 ⟨rfl, hB⟩; have n0_ := (hB.block _ Z.out).trans X.out; have f0 := hk_blk_frozen n0_ 5; have c0 := hk_blk_cell n0_ 5 _ rfl; have Y := Aside0.mk n0_; clear n0_; have hB := Aside0.mk hB))
  clear c0 f0
  have n0_ := Aside0.mk (blk_put Y.out 5 (.int .u64 s) rfl)
  have n1_ := Aside0.mk (blk_far ((hB.out.block _ (blk_lt X2.out)).trans X2.out) (p := ⟨b, 5, none⟩) HN2.out (.int .u64 s))
  have n2_ := Aside0.mk (below_set (j := 5) (v := (.int .u64 s)) (B.out.trans (hB.out.mono B.out.size)) G.out)
  have n4_ := Aside0.mk (Kd.R_far (Kd.R_below R0.out hB.out) (p := ⟨b, 5, none⟩) (fun k hk => hk) (.int .u64 s))
  have n5_ := Aside0.mk (Kd.R_far (Kd.R_below R1.out hB.out) (p := ⟨b, 5, none⟩) (fun k hk => hk) (.int .u64 s))
  clear X X2 B Z Y hB R0 R1
  generalize w5.setCell ⟨b, 5, none⟩ (.int .u64 s) = W9 at n0_ n1_ n2_ n4_ n5_ ⊢
  go_ret
  exact ⟨b, b2, _, _, _, _, _, rfl, G.out, by rw [HB2.out]; exact Nat.le_refl _, n2_.out, n0_.out, n1_.out, n4_.out, n5_.out⟩
theorem hk_New4.calls (k : Nat) (a : Nat) (k0 k1 t0 t1 : List Int) (ke0 ke1 u0 u1 e0 e1 s es : Int) (w : World) (ha : a ≤ 20) (K0 : twid_Table.f k a 0 = some (k0, ke0)) (K1 : twid_Table.f k a 1 = some (k1, ke1)) (H0 : kern4_whole.f k a 0 = some t0) (H1 : kern4_whole.f k a 1 = some t1) (U0 : kern4_Unit.f k 0 = some (u0, e0)) (U1 : kern4_Unit.f k 1 = some (u1, e1)) (HS : twid_Share.f k a = some (s, es)) :
    Calls Tryd.prog 28 #[.int .i64 (a : Int)] w fun e w' => ∃ b, e = .returned (.pointer (some ⟨b, 0, none⟩)) ∧ Below w.heap.size w w' ∧ hk_K4 a t0 t1 u0 u1 s w.heap.size w'.heap.size b w' := by
  refine (kern4_New.calls k a k0 k1 t0 t1 ke0 ke1 u0 u1 e0 e1 s es w (decide_eq_false (by omega)) (decide_eq_false (by omega)) K0 K1 H0 H1 U0 U1 HS).mono ?_
  rintro e w' ⟨b, b2, v0, v1, x0, x1, x2, rfl, hb, hb2, hB, hX, hX2, hR0, hR1⟩
  exact ⟨b, rfl, hB, ⟨hb, blk_lt hX⟩, b2, v0, v1, x0, x1, x2, ⟨hb2, blk_lt hX2⟩, hX, hX2, Kd.R_mono (Kd.R_bound hR0) (fun j hj => hj.2.2.1), Kd.R_mono (Kd.R_bound hR1) (fun j hj => hj.2.2.1)⟩
set_option maxHeartbeats 800000 in
set_option maxRecDepth 100000 in
theorem kern4_New.none (a : Int) (w : World) (h : a < 0 ∨ 20 < a) : Calls Tryd.prog 28 #[.int .i64 a] w fun e w' => e = .returned (.pointer none) ∧ Drawn0 w w' := by
  have H := Aside0.mk h
  clear h
  go_enter Tryd.func28, Tryd.ntmps28
  go_wp2_with (go_at_call 22; (with_reducible refine (kern2_New.none a _ H.out).mono ?_); rintro e w1 ⟨rfl, hb1⟩; have hb1 := Aside0.mk hb1)
  go_ret
  exact ⟨rfl, hb1.out⟩
/-- A kernel's tables. -/
def hk_tabs4 (n k : Nat) (t0 t1 : List Int) (u0 u1 s : Int) : Prop := ∃ (k0 k1 : List Int) (ke0 ke1 e0 e1 es : Int), twid_Table.f n (k : Int) 0 = some (k0, ke0) ∧ twid_Table.f n (k : Int) 1 = some (k1, ke1) ∧ kern4_whole.f n (k : Int) 0 = some t0 ∧ kern4_whole.f n (k : Int) 1 = some t1 ∧ kern4_Unit.f n 0 = some (u0, e0) ∧ kern4_Unit.f n 1 = some (u1, e1) ∧ twid_Share.f n (k : Int) = some (s, es)
theorem hk_New4.at (n a : Nat) (t0 t1 : List Int) (u0 u1 s : Int) (w : World) (ha : a ≤ 20) (h : hk_tabs4 n a t0 t1 u0 u1 s) :
    Calls Tryd.prog 28 #[.int .i64 (a : Int)] w fun e w' => ∃ b, e = .returned (.pointer (some ⟨b, 0, none⟩)) ∧ Below w.heap.size w w' ∧ hk_K4 a t0 t1 u0 u1 s w.heap.size w'.heap.size b w' := by
  obtain ⟨k0, k1, ke0, ke1, e0, e1, es, h1, h2, h3, h4, h5, h6, h7⟩ := h
  exact hk_New4.calls n a k0 k1 t0 t1 ke0 ke1 u0 u1 e0 e1 s es w ha h1 h2 h3 h4 h5 h6 h7

/-! ### kern2_Kernel_K: function 23 (by hand) -/
theorem hk_kern2_K.calls (b2 : Nat) (x0 x1 x2 : Value) (k : Int) (w : World) (hX : w.heap[b2]? = some (.cells #[x0, x1, x2, .int .i64 k] 59 (0, 0))) :
    Calls Tryd.prog 23 #[.pointer (some ⟨b2, 0, none⟩)] w fun e w' => e = .returned (.int .i64 k) ∧ Drawn0 w w' := by
  have hc := hk_blk_cell hX 3 _ rfl
  clear hX
  go_enter Tryd.func23, Tryd.ntmps23
  go_wp2
  go_ret
  exact ⟨rfl, by repeat (first | exact Drawn0.refl _ | apply Drawn0.step)⟩

-- NOT PRINTED: function 71 (kern4_pass_quarter_1)

/-! ### kern4_pass_quarter: function 63 (by hand) -/
theorem hk_quarter1_ix {n q s i j X : Nat} (h : X = q + s * (i + j * (n / 4))) (hX : X ≤ 1048576) (hn : n ≤ 1048576) (hs : 0 < s) : IntKind.i64.wrap ((q : Int) + IntKind.i64.wrap ((s : Int) * IntKind.i64.wrap ((i : Int) + IntKind.i64.wrap ((j : Int) * IntKind.i64.wrap ((n : Int).tdiv 4))))) = (X : Int) := by
  have h1 : i + j * (n / 4) ≤ s * (i + j * (n / 4)) := Nat.le_mul_of_pos_left _ hs
  have h2 : s * (i + j * (n / 4)) ≤ X := by rw [h]; exact Nat.le_add_left _ _
  have h3 : i + j * (n / 4) ≤ 1048576 := Nat.le_trans h1 (Nat.le_trans h2 hX)
  have h4 : j * (n / 4) ≤ 1048576 := Nat.le_trans (Nat.le_add_left _ _) h3
  have e0 : (n : Int).tdiv 4 = ((n / 4 : Nat) : Int) := by rw [Int.tdiv_eq_ediv_of_nonneg (by omega)]; rfl
  rw [e0, hk_wn (show n / 4 ≤ 1048576 by omega), ← Int.natCast_mul, hk_wn h4, ← Int.natCast_add, hk_wn h3, ← Int.natCast_mul, hk_wn (Nat.le_trans h2 hX), ← Int.natCast_add, ← h, hk_wn hX]
set_option maxHeartbeats 800000 in
set_option maxRecDepth 100000 in
theorem hk_quarter1.calls (j n q s i : Int) (X : Nat) (b1 b2 b3 b4 b5 gp : Nat) (S : Option Addr) (cS : Nat) (L : List Int) (w : World)
    (h1 : w.cell? ⟨b1, 0, none⟩ = some (.pointer (some ⟨gp, 0, none⟩))) (h2 : w.cell? ⟨b2, 0, none⟩ = some (.int .i64 q)) (h3 : w.cell? ⟨b3, 0, none⟩ = some (.int .i64 s)) (h4 : w.cell? ⟨b4, 0, none⟩ = some (.int .i64 i)) (h5 : w.cell? ⟨b5, 0, none⟩ = some (.int .i64 n))
    (hp : w.cell? ⟨gp, 2, none⟩ = some (.slice S L.length cS)) (hS : Kd.C (Kd.int .u64) w S L.length L) (hX : IntKind.i64.wrap (q + IntKind.i64.wrap (s * IntKind.i64.wrap (i + IntKind.i64.wrap (j * IntKind.i64.wrap (n.tdiv 4))))) = (X : Int)) (hl : X < L.length) (hn : 0 ≤ n) :
    Calls Tryd.prog 71 #[.int .i64 j, .pointer (some ⟨b1, 0, none⟩), .pointer (some ⟨b2, 0, none⟩), .pointer (some ⟨b3, 0, none⟩), .pointer (some ⟨b4, 0, none⟩), .pointer (some ⟨b5, 0, none⟩)] w fun e w' => e = .returned (.int .u64 (rd L (X : Int))) ∧ Drawn0 w w' := by
  obtain ⟨ad, eS, hx⟩ := Kd.at_int hS (X : Int) (by omega) (by omega)
  subst eS
  rw [Int.toNat_natCast] at hx
  have p0 : (0 ≤ (X : Int)) = True := eq_true (by omega)
  have p1 : ((X : Int) < (L.length : Int)) = True := eq_true (by omega)
  clear hS hl
  go_enter Tryd.func71, Tryd.ntmps71
  go_wp2
  go_quiet (skip)
  go_wp2
  go_ret
  exact ⟨rfl, ⟨_, rfl⟩⟩
/-- One crossing, laid where it belongs. -/
def hk_qstep (pw src : List Int) (u : Int) (n s st i q : Nat) (d : List Int) : Option (List Int) :=
  (hk_crossO (rd src ((q + s * (i + 0 * (n / 4)) : Nat) : Int)) (rd src ((q + s * (i + 1 * (n / 4)) : Nat) : Int)) (rd src ((q + s * (i + 2 * (n / 4)) : Nat) : Int)) (rd src ((q + s * (i + 3 * (n / 4)) : Nat) : Int)) u).bind fun y =>
  (gold_Mul.f y.2.1 (rd pw ((i * st : Nat) : Int))).bind fun z1 => (gold_Mul.f y.2.2.1 (rd pw ((2 * i * st : Nat) : Int))).bind fun z2 => (gold_Mul.f y.2.2.2 (rd pw ((3 * i * st : Nat) : Int))).bind fun z3 =>
  some ((((d.set (q + s * 4 * i) y.1).set (q + s * 4 * i + s) z1).set (q + s * 4 * i + 2 * s) z2).set (q + s * 4 * i + 3 * s) z3)
def hk_qin (pw src : List Int) (u : Int) (n s st i : Nat) (d : List Int) : Nat → Option (List Int)
  | 0 => some d
  | q + 1 => (hk_qin pw src u n s st i d q).bind (hk_qstep pw src u n s st i q)
def hk_qout (pw src : List Int) (u : Int) (n s st : Nat) (d : List Int) : Nat → Option (List Int)
  | 0 => some d
  | i + 1 => (hk_qout pw src u n s st d i).bind fun x => hk_qin pw src u n s st i x s
theorem hk_qin_down {pw src : List Int} {u : Int} {n s st i : Nat} {d : List Int} : ∀ {j m : Nat} {r : List Int}, hk_qin pw src u n s st i d (j + m) = some r → ∃ x, hk_qin pw src u n s st i d j = some x
  | j, 0, r, h => ⟨r, h⟩
  | j, m + 1, r, h => by
    unfold hk_qin at h
    obtain ⟨x, hx, _⟩ := Option.bind_eq_some_iff.1 h
    exact hk_qin_down (m := m) hx
theorem hk_qout_down {pw src : List Int} {u : Int} {n s st : Nat} {d : List Int} : ∀ {j m : Nat} {r : List Int}, hk_qout pw src u n s st d (j + m) = some r → ∃ x, hk_qout pw src u n s st d j = some x
  | j, 0, r, h => ⟨r, h⟩
  | j, m + 1, r, h => by
    unfold hk_qout at h
    obtain ⟨x, hx, _⟩ := Option.bind_eq_some_iff.1 h
    exact hk_qout_down (m := m) hx
theorem hk_to_ix {q s i ta : Nat} (h : ta = q + s * 4 * i) (h1 : ta ≤ 1048576) (h2 : s * 4 ≤ 1048576) : wrap64 ((q : Int) + wrap64 (wrap64 ((s : Int) * 4) * (i : Int))) = (ta : Int) := by
  have h3 : s * 4 * i ≤ 1048576 := Nat.le_trans (by rw [h]; exact Nat.le_add_left _ _) h1
  have e1 : wrap64 ((s : Int) * 4) = ((s * 4 : Nat) : Int) := by rw [← i64_w]; exact hk_wn (z := s * 4) h2
  rw [e1, ← i64_w, ← i64_w, ← Int.natCast_mul, hk_wn h3, ← Int.natCast_add, ← h, hk_wn h1]
theorem hk_quarter1.of (w0 w W : World) (gp gs gd b3 b4 b5 b7 b11 : Nat) (P : Option Addr) (np cp cS cD : Nat) (u : Int) (src : List Int) (n s i q : Nat) (j : Int) (X : Nat)
    (h : hk_QE w0 w gp gs gd P np cp cS cD u src [(b11, .cells #[.int .i64 (q : Int)] 3 (0, 0)), (b7, .cells #[.int .i64 (i : Int)] 3 (0, 0)), (b3, .cells #[.pointer (some ⟨gp, 0, none⟩)] 88 (0, 0)), (b4, .cells #[.int .i64 (n : Int)] 3 (0, 0)), (b5, .cells #[.int .i64 (s : Int)] 3 (0, 0))] W)
    (hX : IntKind.i64.wrap ((q : Int) + IntKind.i64.wrap ((s : Int) * IntKind.i64.wrap ((i : Int) + IntKind.i64.wrap (j * IntKind.i64.wrap ((n : Int).tdiv 4))))) = (X : Int)) (hl : X < src.length) :
    Calls Tryd.prog 71 #[.int .i64 j, .pointer (some ⟨b3, 0, none⟩), .pointer (some ⟨b11, 0, none⟩), .pointer (some ⟨b5, 0, none⟩), .pointer (some ⟨b7, 0, none⟩), .pointer (some ⟨b4, 0, none⟩)] W fun e w' => e = .returned (.int .u64 (rd src (X : Int))) ∧ Drawn0 W w' :=
  hk_quarter1.calls j n q s i X b3 b11 b5 b7 b4 gp (some ⟨gs, 0, none⟩) cS src W (h.cell (List.Mem.tail _ (List.Mem.tail _ (List.Mem.head _))) 0 _ rfl) (h.cell (List.Mem.head _) 0 _ rfl) (h.cell (List.Mem.tail _ (List.Mem.tail _ (List.Mem.tail _ (List.Mem.tail _ (List.Mem.head _))))) 0 _ rfl) (h.cell (List.Mem.tail _ (List.Mem.head _)) 0 _ rfl) (h.cell (List.Mem.tail _ (List.Mem.tail _ (List.Mem.tail _ (List.Mem.head _)))) 0 _ rfl) (hk_blk_cell h.hX 2 _ rfl) (Kd.R_reads' h.hS).2.2 hX hl (by omega)
theorem hk_new_blk (W : World) (cs : Array Value) (t : TypeId) : (W.alloc (.cells cs t)).heap[W.heap.size]? = some (.cells cs t (0, 0)) := show (W.heap.push _)[W.heap.size]? = _ from Array.getElem?_push_size
theorem hk_put4 {W : World} {g : Nat} {t : TypeId} {v0 v1 v2 v3 : Value} (a b c d : Value) (h : W.heap[g]? = some (.cells #[v0, v1, v2, v3] t (0, 0))) : ((((W.setCell ⟨g, 0, none⟩ a).setCell ⟨g, 1, none⟩ b).setCell ⟨g, 2, none⟩ c).setCell ⟨g, 3, none⟩ d).heap[g]? = some (.cells #[a, b, c, d] t (0, 0)) :=
  blk_put (blk_put (blk_put (blk_put h 0 a rfl) 1 b rfl) 2 c rfl) 3 d rfl
theorem hk_quarter1.of' (w0 w V0 W : World) (gp gs gd b3 b4 b5 b7 b11 : Nat) (P : Option Addr) (np cp cS cD : Nat) (u : Int) (src : List Int) (n s i q : Nat) (j : Int) (X : Nat)
    (h : hk_QE w0 w gp gs gd P np cp cS cD u src [(b11, .cells #[.int .i64 (q : Int)] 3 (0, 0)), (b7, .cells #[.int .i64 (i : Int)] 3 (0, 0)), (b3, .cells #[.pointer (some ⟨gp, 0, none⟩)] 88 (0, 0)), (b4, .cells #[.int .i64 (n : Int)] 3 (0, 0)), (b5, .cells #[.int .i64 (s : Int)] 3 (0, 0))] V0) (hv : Below V0.heap.size V0 W)
    (hX : IntKind.i64.wrap ((q : Int) + IntKind.i64.wrap ((s : Int) * IntKind.i64.wrap ((i : Int) + IntKind.i64.wrap (j * IntKind.i64.wrap ((n : Int).tdiv 4))))) = (X : Int)) (hl : X < src.length) :
    Calls Tryd.prog 71 #[.int .i64 j, .pointer (some ⟨b3, 0, none⟩), .pointer (some ⟨b11, 0, none⟩), .pointer (some ⟨b5, 0, none⟩), .pointer (some ⟨b7, 0, none⟩), .pointer (some ⟨b4, 0, none⟩)] W fun e w' => e = .returned (.int .u64 (rd src (X : Int))) ∧ Below V0.heap.size V0 w' ∧ ∀ (g : Nat) (o : Obj), W.heap[g]? = some o → w'.heap[g]? = some o :=
  (hk_quarter1.of w0 w W gp gs gd b3 b4 b5 b7 b11 P np cp cS cD u src n s i q j X (h.below hv) hX hl).mono (fun e w' hh => ⟨hh.1, hv.trans ((hk_drawn_below hh.2).mono hv.size), fun g o hg => ((hk_drawn_below hh.2).block g (blk_lt hg)).trans hg⟩)
theorem kern4_Cross.of (a b c d u y0 y1 y2 y3 : Int) (V0 W : World) (h : hk_crossO a b c d u = some (y0, y1, y2, y3)) (hv : Below V0.heap.size V0 W) :
    Calls Tryd.prog 48 #[.int .u64 a, .int .u64 b, .int .u64 c, .int .u64 d, .int .u64 u] W fun e w' => e = .returned (.agg #[.int .u64 y0, .int .u64 y1, .int .u64 y2, .int .u64 y3]) ∧ Below V0.heap.size V0 w' ∧ ∀ (g : Nat) (o : Obj), W.heap[g]? = some o → w'.heap[g]? = some o :=
  (kern4_Cross.callsO a b c d u y0 y1 y2 y3 W h).mono (fun e w' hh => ⟨hh.1, hv.trans (hh.2.mono hv.size), fun g o hg => (hh.2.block g (blk_lt hg)).trans hg⟩)
theorem hk_ix_lt {n s i q j L : Nat} (hL : L = n * s) (hi : i < n / 4) (hq : q < s) (hj : j < 4) : q + s * (i + j * (n / 4)) < L := by
  have h1 : i + j * (n / 4) + 1 ≤ n := by
    have h2 : j * (n / 4) ≤ 3 * (n / 4) := Nat.mul_le_mul_right _ (by omega)
    omega
  have h3 : (i + j * (n / 4) + 1) * s ≤ n * s := Nat.mul_le_mul_right _ h1
  rw [Nat.add_mul, Nat.one_mul, Nat.mul_comm _ s] at h3
  omega
theorem hk_to_lt {n s i q j L : Nat} (hL : L = n * s) (hi : i < n / 4) (hq : q < s) (hj : j < 4) : q + s * 4 * i + j * s < L := by
  have h1 : 4 * i + j + 1 ≤ n := by omega
  have h3 : (4 * i + j + 1) * s ≤ n * s := Nat.mul_le_mul_right _ h1
  have e : s * 4 * i = 4 * i * s := by rw [Nat.mul_assoc, Nat.mul_comm]
  rw [Nat.add_mul, Nat.add_mul, Nat.one_mul] at h3
  omega
set_option maxHeartbeats 40000000 in
set_option maxRecDepth 100000 in
theorem kern4_quarter.calls (n s : Nat) (u : Int) (gp gs gd : Nat) (P : Option Addr) (cp cS cD : Nat) (pw src d r : List Int) (w0 w : World) (hB : Below w0.heap.size w0 w)
    (hX : w.heap[gp]? = some (.cells #[.slice P pw.length cp, .int .u64 u, .slice (some ⟨gs, 0, none⟩) src.length cS, .slice (some ⟨gd, 0, none⟩) src.length cD] 90 (0, 0)))
    (hP : ∀ W, Kept w W (fun j => j = gp ∨ j = gd) → Kd.C (Kd.int .u64) W P pw.length pw)
    (hSr : Kd.R (Kd.int .u64) 32 w w0.heap.size (fun j => j = gs) (.slice (some ⟨gs, 0, none⟩) src.length cS) src) (hDr : Kd.R (Kd.int .u64) 32 w w0.heap.size (fun j => j = gd) (.slice (some ⟨gd, 0, none⟩) src.length cD) d)
    (hgp : w0.heap.size ≤ gp) (hne1 : gs ≠ gp) (hne2 : gd ≠ gp) (hne3 : gs ≠ gd) (hs : 0 < s) (hn : 4 ≤ n) (hN : src.length = n * s) (hN2 : src.length ≤ 1048576) (hpw : ∀ i, i < n / 4 → 3 * i * (src.length / n) < pw.length) (hpw2 : pw.length ≤ 1048576) (h : hk_qout pw src u n s (src.length / n) d (n / 4) = some r) :
    Calls Tryd.prog 63 #[.pointer (some ⟨gp, 0, none⟩), .int .i64 n, .int .i64 s] w fun e w' => e = .returned (.tuple #[]) ∧ Below w0.heap.size w0 w' ∧ Kept w w' (fun j => j = gp ∨ j = gd) ∧
      w'.heap[gp]? = some (.cells #[.slice P pw.length cp, .int .u64 u, .slice (some ⟨gd, 0, none⟩) src.length cD, .slice (some ⟨gs, 0, none⟩) src.length cS] 90 (0, 0)) ∧
      Kd.R (Kd.int .u64) 32 w' w0.heap.size (fun j => j = gd) (.slice (some ⟨gd, 0, none⟩) src.length cD) r := by
  have HB := Aside0.mk hB
  have HX := Aside0.mk hX
  have HP := Aside0.mk hP
  have HS := Aside0.mk hSr
  have HD := Aside0.mk hDr
  have HN := Aside0.mk hN
  have HN2 := Aside0.mk hN2
  have HH := Aside0.mk h
  have HNE := Aside0.mk (And.intro hgp (And.intro hne1 (And.intro hne2 hne3)))
  have HSN := Aside0.mk (And.intro hs hn)
  have HPW := Aside0.mk hpw
  have HPW2 := Aside0.mk hpw2
  clear hB hX hP hSr hDr hgp hne1 hne2 hne3 hs hn hN hN2 hpw hpw2 h
  go_enter Tryd.func63, Tryd.ntmps63
  go_wp2
  have hn1 : n ≤ src.length := by rw [HN.out]; exact Nat.le_mul_of_pos_right _ HSN.out.1
  have hn2 : n ≤ 1048576 := Nat.le_trans hn1 HN2.out
  have Hn2 := Aside0.mk hn2
  have hst : wrap64 ((src.length : Int) / (n : Int)) = ((src.length / n : Nat) : Int) := by rw [← Int.natCast_ediv, ← i64_w]; exact hk_wn (Nat.le_trans (Nat.div_le_self _ _) HN2.out)
  obtain ⟨st, hsteq⟩ : ∃ st, st = src.length / n := ⟨_, rfl⟩
  rw [← hsteq] at hst HH
  have HST := Aside0.mk hst
  clear hst
  have Hst := Aside0.mk hsteq
  have hn0 : ((n : Int) == 0) = false := by have := HSN.out.2; rw [beq_eq_false_iff_ne]; omega
  have hn0b : (n = 0) = False := eq_false (by have := HSN.out.2; omega)
  have hn0c : (n == 0) = false := by have := HSN.out.2; rw [beq_eq_false_iff_ne]; omega
  clear hn1 hn2 hsteq
  have hb0 : Below w.heap.size w (((w.alloc (.cells #[.pointer (some ⟨gp, 0, none⟩)] 88)).alloc (.cells #[.int .i64 (n : Int)] 3)).alloc (.cells #[.int .i64 (s : Int)] 3)) := (((Below.refl w.heap.size w).alloc (Nat.le_refl _) _).alloc (by simp) _).alloc (by simp; omega) _
  have h3 : (((w.alloc (.cells #[.pointer (some ⟨gp, 0, none⟩)] 88)).alloc (.cells #[.int .i64 (n : Int)] 3)).alloc (.cells #[.int .i64 (s : Int)] 3)).heap[w.heap.size]? = some (.cells #[.pointer (some ⟨gp, 0, none⟩)] 88 (0, 0)) := by
    rw [Below.heap_alloc _ _ _ (by simp; omega), Below.heap_alloc _ _ _ (by simp)]; exact Array.getElem?_push_size
  have h4 : (((w.alloc (.cells #[.pointer (some ⟨gp, 0, none⟩)] 88)).alloc (.cells #[.int .i64 (n : Int)] 3)).alloc (.cells #[.int .i64 (s : Int)] 3)).heap[w.heap.size + 1]? = some (.cells #[.int .i64 (n : Int)] 3 (0, 0)) := by
    rw [Below.heap_alloc _ _ _ (by simp), show w.heap.size + 1 = (w.alloc (.cells #[.pointer (some ⟨gp, 0, none⟩)] 88)).heap.size by simp]; exact Array.getElem?_push_size
  have h5 : (((w.alloc (.cells #[.pointer (some ⟨gp, 0, none⟩)] 88)).alloc (.cells #[.int .i64 (n : Int)] 3)).alloc (.cells #[.int .i64 (s : Int)] 3)).heap[w.heap.size + 1 + 1]? = some (.cells #[.int .i64 (s : Int)] 3 (0, 0)) := by
    rw [show w.heap.size + 1 + 1 = ((w.alloc (.cells #[.pointer (some ⟨gp, 0, none⟩)] 88)).alloc (.cells #[.int .i64 (n : Int)] 3)).heap.size by simp]; exact Array.getElem?_push_size
  have hgd : gd < w.heap.size := Kd.R_lt HD.out gd rfl
  have hgd0 : w0.heap.size ≤ gd := by
    obtain ⟨g', c', e', hb', _⟩ := Kd.R_form HD.out (by
      have := Kd.R_reads' HD.out
      rw [← this.1, HN.out]; exact Nat.mul_pos (by have := HSN.out.2; omega) HSN.out.1)
    injection e' with e1; injection e1 with e1; injection e1 with e1; rw [e1]; exact hb'
  have Q0 : hk_QE w0 w gp gs gd P pw.length cp cS cD u src [(w.heap.size, .cells #[.pointer (some ⟨gp, 0, none⟩)] 88 (0, 0)), (w.heap.size + 1, .cells #[.int .i64 (n : Int)] 3 (0, 0)), (w.heap.size + 1 + 1, .cells #[.int .i64 (s : Int)] 3 (0, 0))] (((w.alloc (.cells #[.pointer (some ⟨gp, 0, none⟩)] 88)).alloc (.cells #[.int .i64 (n : Int)] 3)).alloc (.cells #[.int .i64 (s : Int)] 3)) :=
    ⟨HB.out.trans (hb0.mono HB.out.size), Kept.of_below hb0 _, (hb0.block _ (blk_lt HX.out)).trans HX.out, Kd.R_below HS.out hb0, fun p hp => by
      simp only [List.mem_cons, List.not_mem_nil, or_false] at hp
      rcases hp with rfl | rfl | rfl
      · exact ⟨h3, by show _ ≠ _; omega⟩
      · exact ⟨h4, by show _ ≠ _; omega⟩
      · exact ⟨h5, by show _ ≠ _; omega⟩, hgd0, Ne.symm HNE.out.2.2.1, HNE.out.2.2.2⟩
  have D0 := Kd.R_below HD.out hb0
  have hbz : w.heap.size + 1 + 1 < (((w.alloc (.cells #[.pointer (some ⟨gp, 0, none⟩)] 88)).alloc (.cells #[.int .i64 (n : Int)] 3)).alloc (.cells #[.int .i64 (s : Int)] 3)).heap.size := by simp
  clear h3 h4 h5 hb0 hgd hgd0
  generalize (((w.alloc (.cells #[.pointer (some ⟨gp, 0, none⟩)] 88)).alloc (.cells #[.int .i64 (n : Int)] 3)).alloc (.cells #[.int .i64 (s : Int)] 3)) = W3 at Q0 D0 hbz ⊢
  obtain ⟨b4, hb4⟩ : ∃ b, b = w.heap.size + 1 := ⟨_, rfl⟩
  obtain ⟨b5, hb5⟩ : ∃ b, b = w.heap.size + 1 + 1 := ⟨_, rfl⟩
  obtain ⟨b3, hb3⟩ : ∃ b, b = w.heap.size := ⟨_, rfl⟩
  rw [← hb5, ← hb4, ← hb3] at Q0 ⊢
  rw [← hb5] at hbz
  have HGB := Aside0.mk (show gp ≠ b3 by have := blk_lt HX.out; omega)
  clear hb3 hb4 hb5 hbz
  have Q0 := Aside0.mk Q0
  have D0 := Aside0.mk D0
  have c3 := Q0.out.cell (List.Mem.head _) 0 _ rfl
  have c4 := Q0.out.cell (List.Mem.tail _ (List.Mem.head _)) 0 _ rfl
  have cX := hk_blk_cell Q0.out.hX 2 _ rfl
  go_quiet (skip)
  clear c3 cX
  rw [HST.out]
  have hn4 : wrap64 ((n / 4 : Nat) : Int) = ((n / 4 : Nat) : Int) := by have := Hn2.out; unfold wrap64; omega
  have hn4' : (n : Int) / 4 = ((n / 4 : Nat) : Int) := rfl
  obtain ⟨n4, hn4eq⟩ : ∃ n4, n4 = n / 4 := ⟨_, rfl⟩
  rw [← hn4eq] at hn4 hn4' HH
  have Hn4 := Aside0.mk hn4eq
  clear hn4eq
  have HN4 := Aside0.mk hn4
  clear hn4
  go_wp2_with fail
  rw [HN4.out]
  clear hn4'
  have Q1 := Aside0.mk (Q0.out.drewN nq)
  have D1 := Aside0.mk (Kd.R_drewN D0.out nq)
  clear c4
  generalize W3.drewN nq = W4 at Q1 D1 ⊢
  have QI := Aside0.mk Q1.out
  go_loopg [24] n4 (fun kq v24 w' => ∃ (i : Nat) (x : List Int), v24 = .int .i64 (i : Int) ∧ Aside0 (kq + i = n4) ∧ Aside0 (hk_qout pw src u n s st d i = some x) ∧ Aside0 (hk_QE w0 w gp gs gd P pw.length cp cS cD u src [(b3, .cells #[.pointer (some ⟨gp, 0, none⟩)] 88 (0, 0)), (b4, .cells #[.int .i64 (n : Int)] 3 (0, 0)), (b5, .cells #[.int .i64 (s : Int)] 3 (0, 0))] w') ∧ Aside0 (Kd.R (Kd.int .u64) 32 w' w0.heap.size (fun j => j = gd) (.slice (some ⟨gd, 0, none⟩) src.length cD) x))
  case atStart => exact ⟨0, d, rfl, ⟨by omega⟩, ⟨rfl⟩, Q1, D1⟩
  case round =>
    obtain ⟨i, x, rfl, HI, Hx, HQ, HDx⟩ := hrel
    clear Q0 D0 Q1 D1 QI
    cases gk with
    | zero =>
      have hi := HI.out
      have c1 : decide ((i : Int) < (n4 : Int)) = false := decide_eq_false (by omega)
      have c2 : (i < n4) = False := eq_false (by omega)
      have e : i = n4 := by omega
      rw [e] at Hx
      have er : x = r := by have h1 := Hx.out; rw [HH.out] at h1; injection h1 with h1; exact h1.symm
      rw [er] at HDx
      clear hi e er
      go_wp2_with fail
      have cb3 := HQ.out.cell (List.Mem.head _) 0 _ rfl
      have cX2 := hk_blk_cell HQ.out.hX 2 _ rfl
      have cX3 := hk_blk_cell HQ.out.hX 3 _ rfl
      have fX2 := hk_blk_frozen HQ.out.hX 2
      have fX3 := hk_blk_frozen HQ.out.hX 3
      have hgb := HGB.out
      have hgb' := Ne.symm hgb
      go_region
      all_goals
        obtain ⟨q1, q2, q3, q4⟩ := HQ.out.swap HNE.out.1 HDx.out
        go_end0
        exact ⟨rfl, q1, q2, q3, q4⟩
    | succ k1 =>
      have hi := HI.out
      have c1 : decide ((i : Int) < (n4 : Int)) = true := decide_eq_true (by omega)
      have c2 : (i < n4) = True := eq_true (by omega)
      have HI4 := Aside0.mk (show i < n4 by omega)
      clear hi
      go_wp2_with fail
      have hd7 := Kd.R_lt HDx.out gd rfl
      have H7 := Aside0.mk (HQ.out.alloc hd7 #[.int .i64 (i : Int)] 3)
      have D7 := Aside0.mk (Kd.R_alloc HDx.out (.cells #[.int .i64 (i : Int)] 3))
      obtain ⟨b7, hb7⟩ : ∃ b, b = wr.heap.size := ⟨_, rfl⟩
      rw [← hb7] at H7 ⊢
      clear hd7 hb7 c1 c2
      generalize wr.alloc (.cells #[.int .i64 (i : Int)] 3) = W5 at H7 D7 ⊢
      have hq3 := HPW.out i (by rw [← Hn4.out]; exact HI4.out)
      rw [← Hst.out] at hq3
      have hb3 : 3 * i * st ≤ 1048576 := Nat.le_trans (Nat.le_of_lt hq3) HPW2.out
      have hm1 : i * st ≤ 3 * i * st := by rw [Nat.mul_assoc]; exact Nat.le_mul_of_pos_left _ (by omega)
      have hm2 : 2 * i * st ≤ 3 * i * st := Nat.mul_le_mul_right _ (by omega)
      have hi5 : i ≤ 262144 := by have := HI4.out; have := Hn4.out; have := Hn2.out; omega
      have E1 : IntKind.i64.wrap ((i : Int) * (st : Int)) = ((i * st : Nat) : Int) := by rw [← Int.natCast_mul]; exact hk_wn (by omega)
      have E2a : IntKind.i64.wrap (2 * (i : Int)) = ((2 * i : Nat) : Int) := hk_wn (z := 2 * i) (by omega)
      have E3a : IntKind.i64.wrap (3 * (i : Int)) = ((3 * i : Nat) : Int) := hk_wn (z := 3 * i) (by omega)
      have E2 : IntKind.i64.wrap (((2 * i : Nat) : Int) * (st : Int)) = ((2 * i * st : Nat) : Int) := by rw [← Int.natCast_mul]; exact hk_wn (by omega)
      have E3 : IntKind.i64.wrap (((3 * i : Nat) : Int) * (st : Int)) = ((3 * i * st : Nat) : Int) := by rw [← Int.natCast_mul]; exact hk_wn (by omega)
      obtain ⟨m1, hme1⟩ : ∃ m, m = i * st := ⟨_, rfl⟩
      obtain ⟨m2, hme2⟩ : ∃ m, m = 2 * i * st := ⟨_, rfl⟩
      obtain ⟨m3, hme3⟩ : ∃ m, m = 3 * i * st := ⟨_, rfl⟩
      obtain ⟨i2, hie2⟩ : ∃ m, m = 2 * i := ⟨_, rfl⟩
      obtain ⟨i3, hie3⟩ : ∃ m, m = 3 * i := ⟨_, rfl⟩
      rw [← hme1] at E1 hm1
      rw [← hme2] at E2 hm2
      rw [← hme3] at E3 hm1 hm2 hb3 hq3
      rw [← hie2] at E2 E2a
      rw [← hie3] at E3 E3a
      have hCP := HP.out _ H7.out.hK
      obtain ⟨ad, ea, hx1⟩ := Kd.at_int hCP (m1 : Int) (by omega) (by omega)
      obtain ⟨ad2, ea2, hx2⟩ := Kd.at_int hCP (m2 : Int) (by omega) (by omega)
      obtain ⟨ad3, ea3, hx3⟩ := Kd.at_int hCP (m3 : Int) (by omega) (by omega)
      have ead2 : ad2 = ad := by rw [ea] at ea2; injection ea2 with h; exact h.symm
      have ead3 : ad3 = ad := by rw [ea] at ea3; injection ea3 with h; exact h.symm
      subst ead2 ead3
      rw [Int.toNat_natCast] at hx1 hx2 hx3
      have p1 : ((m1 : Int) < (pw.length : Int)) = True := eq_true (by omega)
      have p2 : ((m2 : Int) < (pw.length : Int)) = True := eq_true (by omega)
      have p3 : ((m3 : Int) < (pw.length : Int)) = True := eq_true (by omega)
      have p1' : (m1 < pw.length) = True := eq_true (by omega)
      have p2' : (m2 < pw.length) = True := eq_true (by omega)
      have p3' : (m3 < pw.length) = True := eq_true (by omega)
      have cb3 := H7.out.cell (List.Mem.tail _ (List.Mem.head _)) 0 _ rfl
      have cb7 := H7.out.cell (List.Mem.head _) 0 _ rfl
      have cX0 := hk_blk_cell H7.out.hX 0 _ rfl
      rw [ea] at cX0
      have HM := Aside0.mk (And.intro hme1 (And.intro hme2 (And.intro hme3 (And.intro hie2 hie3))))
      have EA := Aside0.mk ea
      clear hq3 hb3 hm1 hm2 hi5 hme1 hme2 hme3 hie2 hie3 hCP ea ea2 ea3
      go_quiet (skip)
      have H8 := Aside0.mk (H7.out.drewN nq)
      have D8 := Aside0.mk (Kd.R_drewN D7.out nq)
      clear cb3 cb7 cX0 hx1 hx2 hx3 E1 E2 E3 E2a E3a p1 p2 p3 p1' p2' p3' H7 D7
      generalize W5.drewN nq = W6 at H8 D8 ⊢
      have cb5 := H8.out.cell (List.Mem.tail _ (List.Mem.tail _ (List.Mem.tail _ (List.Mem.head _)))) 0 _ rfl
      have hi := HI.out
      have hdn : ∃ y, hk_qout pw src u n s st d (i + 1) = some y := hk_qout_down (m := k1) (by rw [show i + 1 + k1 = n4 by omega]; exact HH.out)
      obtain ⟨y, hy⟩ := hdn
      have hy2 := hy
      unfold hk_qout at hy2
      rw [Hx.out, Option.bind_some] at hy2
      have HY := Aside0.mk hy
      have HY2 := Aside0.mk hy2
      clear hi hy hy2
      go_wp2_with fail
      go_loopg [57] s (fun kq v57 w' => ∃ (q : Nat) (z : List Int), v57 = .int .i64 (q : Int) ∧ Aside0 (kq + q = s) ∧ Aside0 (hk_qin pw src u n s st i x q = some z) ∧ Aside0 (hk_QE w0 w gp gs gd P pw.length cp cS cD u src [(b7, .cells #[.int .i64 (i : Int)] 3 (0, 0)), (b3, .cells #[.pointer (some ⟨gp, 0, none⟩)] 88 (0, 0)), (b4, .cells #[.int .i64 (n : Int)] 3 (0, 0)), (b5, .cells #[.int .i64 (s : Int)] 3 (0, 0))] w') ∧ Aside0 (Kd.R (Kd.int .u64) 32 w' w0.heap.size (fun j => j = gd) (.slice (some ⟨gd, 0, none⟩) src.length cD) z))
      case atStart => exact ⟨0, x, rfl, ⟨by omega⟩, ⟨rfl⟩, H8, D8⟩
      case round =>
        obtain ⟨q, z, rfl, HJ, Hz, HQq, HDz⟩ := hrel
        clear H8 D8 cb5
        cases gk with
        | zero =>
          have hj := HJ.out
          have c1 : decide ((q : Int) < (s : Int)) = false := decide_eq_false (by omega)
          have c2 : (q < s) = False := eq_false (by omega)
          have e : q = s := by omega
          rw [e] at Hz
          have er : z = y := by have h1 := Hz.out; rw [HY2.out] at h1; injection h1 with h1; exact h1.symm
          rw [er] at HDz
          clear hj e er
          go_wp2_with fail
          go_roundg k1
          case measure => omega
          case rel => exact ⟨i + 1, y, (by rw [show wrap64 ((i : Int) + 1) = ((i + 1 : Nat) : Int) by have := HI4.out; have := Hn4.out; have := Hn2.out; unfold wrap64; omega]), ⟨by have := HI.out; omega⟩, HY, ⟨HQq.out.sub (fun p hp => List.mem_cons_of_mem _ hp)⟩, HDz⟩
        | succ k2 =>
          have hj := HJ.out
          have hqs : q < s := by omega
          have c1 : decide ((q : Int) < (s : Int)) = true := decide_eq_true (by omega)
          have c2 : (q < s) = True := eq_true hqs
          have hdz : ∃ z', hk_qin pw src u n s st i x (q + 1) = some z' := hk_qin_down (m := k2) (by rw [show q + 1 + k2 = s by omega]; exact HY2.out)
          obtain ⟨z', hz'⟩ := hdz
          have hz2 := hz'
          unfold hk_qin at hz2
          rw [Hz.out, Option.bind_some] at hz2
          unfold hk_qstep at hz2
          rw [← HM.out.1, ← HM.out.2.1, ← HM.out.2.2.1] at hz2
          obtain ⟨⟨y0, y1, y2, y3⟩, hcr, hz2⟩ := Option.bind_eq_some_iff.1 hz2
          obtain ⟨z1, hg1, hz2⟩ := Option.bind_eq_some_iff.1 hz2
          obtain ⟨z2, hg2, hz2⟩ := Option.bind_eq_some_iff.1 hz2
          obtain ⟨z3, hg3, hz2⟩ := Option.bind_eq_some_iff.1 hz2
          have hz3 := Option.some.inj hz2
          have HZ' := Aside0.mk hz'
          obtain ⟨x0, ex0⟩ : ∃ x, x = q + s * (i + 0 * (n / 4)) := ⟨_, rfl⟩
          obtain ⟨x1, ex1⟩ : ∃ x, x = q + s * (i + 1 * (n / 4)) := ⟨_, rfl⟩
          obtain ⟨x2, ex2⟩ : ∃ x, x = q + s * (i + 2 * (n / 4)) := ⟨_, rfl⟩
          obtain ⟨x3, ex3⟩ : ∃ x, x = q + s * (i + 3 * (n / 4)) := ⟨_, rfl⟩
          rw [← ex0, ← ex1, ← ex2, ← ex3] at hcr
          have HCR := Aside0.mk hcr
          have HG1 := Aside0.mk hg1
          have HG2 := Aside0.mk hg2
          have HG3 := Aside0.mk hg3
          have HZ3 := Aside0.mk hz3
          have hI4 : i < n / 4 := by rw [← Hn4.out]; exact HI4.out
          have X0 := Aside0.mk (show x0 < src.length by rw [ex0]; exact hk_ix_lt (j := 0) HN.out hI4 hqs (by omega))
          have X1 := Aside0.mk (show x1 < src.length by rw [ex1]; exact hk_ix_lt (j := 1) HN.out hI4 hqs (by omega))
          have X2 := Aside0.mk (show x2 < src.length by rw [ex2]; exact hk_ix_lt (j := 2) HN.out hI4 hqs (by omega))
          have X3 := Aside0.mk (show x3 < src.length by rw [ex3]; exact hk_ix_lt (j := 3) HN.out hI4 hqs (by omega))
          have T0 := Aside0.mk (hk_to_lt (j := 0) HN.out hI4 hqs (by omega))
          have T1 := Aside0.mk (hk_to_lt (j := 1) HN.out hI4 hqs (by omega))
          have T2 := Aside0.mk (hk_to_lt (j := 2) HN.out hI4 hqs (by omega))
          have T3 := Aside0.mk (hk_to_lt (j := 3) HN.out hI4 hqs (by omega))
          have w0x := Aside0.mk (show IntKind.i64.wrap ((q : Int) + IntKind.i64.wrap ((s : Int) * IntKind.i64.wrap ((i : Int) + IntKind.i64.wrap (0 * IntKind.i64.wrap ((n : Int).tdiv 4))))) = (x0 : Int) from hk_quarter1_ix (j := 0) (X := x0) ex0 (Nat.le_trans (Nat.le_of_lt X0.out) HN2.out) Hn2.out HSN.out.1)
          have w1x := Aside0.mk (show IntKind.i64.wrap ((q : Int) + IntKind.i64.wrap ((s : Int) * IntKind.i64.wrap ((i : Int) + IntKind.i64.wrap (1 * IntKind.i64.wrap ((n : Int).tdiv 4))))) = (x1 : Int) from hk_quarter1_ix (j := 1) (X := x1) ex1 (Nat.le_trans (Nat.le_of_lt X1.out) HN2.out) Hn2.out HSN.out.1)
          have w2x := Aside0.mk (show IntKind.i64.wrap ((q : Int) + IntKind.i64.wrap ((s : Int) * IntKind.i64.wrap ((i : Int) + IntKind.i64.wrap (2 * IntKind.i64.wrap ((n : Int).tdiv 4))))) = (x2 : Int) from hk_quarter1_ix (j := 2) (X := x2) ex2 (Nat.le_trans (Nat.le_of_lt X2.out) HN2.out) Hn2.out HSN.out.1)
          have w3x := Aside0.mk (show IntKind.i64.wrap ((q : Int) + IntKind.i64.wrap ((s : Int) * IntKind.i64.wrap ((i : Int) + IntKind.i64.wrap (3 * IntKind.i64.wrap ((n : Int).tdiv 4))))) = (x3 : Int) from hk_quarter1_ix (j := 3) (X := x3) ex3 (Nat.le_trans (Nat.le_of_lt X3.out) HN2.out) Hn2.out HSN.out.1)
          clear hj hqs hz' hz2 hz3 hcr hg1 hg2 hg3 hI4 ex0 ex1 ex2 ex3
          go_wp2_with fail
          have hd9 := Kd.R_lt HDz.out gd rfl
          have H9 := Aside0.mk (HQq.out.alloc hd9 #[.int .i64 (q : Int)] 3)
          have D9 := Aside0.mk (Kd.R_alloc HDz.out (.cells #[.int .i64 (q : Int)] 3))
          obtain ⟨b11, hb11⟩ : ∃ b, b = wr.heap.size := ⟨_, rfl⟩
          rw [← hb11] at H9 ⊢
          clear hd9 hb11 c1 c2
          generalize wr.alloc (.cells #[.int .i64 (q : Int)] 3) = V0 at H9 D9 ⊢
          have HV := Aside0.mk (Below.refl V0.heap.size V0)
          have cb3 := H9.out.cell (List.Mem.tail _ (List.Mem.tail _ (List.Mem.head _))) 0 _ rfl
          have cX1 := hk_blk_cell H9.out.hX 1 _ rfl
          have SV : ∀ V, Below V0.heap.size V0 V → V.cell? ⟨b3, 0, none⟩ = some (.pointer (some ⟨gp, 0, none⟩)) ∧ V.cell? ⟨gp, 1, none⟩ = some (.int .u64 u) := fun V hV => ⟨(H9.out.below hV).cell (List.Mem.tail _ (List.Mem.tail _ (List.Mem.head _))) 0 _ rfl, hk_blk_cell (H9.out.below hV).hX 1 _ rfl⟩
          have SV := Aside0.mk SV
          go_cut [13] from 58 to 126 (fun v13 wx => ∃ g : Nat, v13 = .pointer (some ⟨g, 0, none⟩) ∧ Aside0 (Below V0.heap.size V0 wx) ∧ Aside0 (wx.heap[g]? = some (.cells #[.int .u64 y0, .int .u64 y1, .int .u64 y2, .int .u64 y3] 67 (0, 0))) ∧ Aside0 (V0.heap.size ≤ g))
          case first =>
            go_region_held3 (fun w' => w'.cell? ⟨b3, 0, none⟩ = some (.pointer (some ⟨gp, 0, none⟩)) ∧ w'.cell? ⟨gp, 1, none⟩ = some (.int .u64 u)) (first | ((refine SV.out _ ?_; (with_reducible repeat (first | exact HV.out | apply below_alloc | apply below_drew | refine below_set ?_ HGe.out | refine below_set ?_ HV.out.size)); done)) | go_keep) (first | (go_at_call 71; (first | (with_reducible refine (hk_quarter1.of' w0 w V0 _ gp gs gd b3 b4 b5 b7 b11 P pw.length cp cS cD u src n s i q 0 x0 H9.out ?hv w0x.out X0.out).mono ?_) | (with_reducible refine (hk_quarter1.of' w0 w V0 _ gp gs gd b3 b4 b5 b7 b11 P pw.length cp cS cD u src n s i q 1 x1 H9.out ?hv w1x.out X1.out).mono ?_) | (with_reducible refine (hk_quarter1.of' w0 w V0 _ gp gs gd b3 b4 b5 b7 b11 P pw.length cp cS cD u src n s i q 2 x2 H9.out ?hv w2x.out X2.out).mono ?_) | (with_reducible refine (hk_quarter1.of' w0 w V0 _ gp gs gd b3 b4 b5 b7 b11 P pw.length cp cS cD u src n s i q 3 x3 H9.out ?hv w3x.out X3.out).mono ?_)); (case hv => (repeat (first | exact HV.out | apply below_alloc | apply below_drew))); rintro e v1 ⟨rfl, hb, hk⟩; (first | (have n3_ := Aside0.mk (hk _ _ HGk.out); clear HGk; have HGk := n3_; clear n3_) | (have HGk := Aside0.mk (hk _ _ (hk_new_blk _ _ _)); have HGe := Aside0.mk HV.out.size) | skip); have n0_ := Aside0.mk hb; clear HV hb hk; have HV := n0_; clear n0_) | (go_at_call 48; (with_reducible refine (kern4_Cross.of _ _ _ _ u y0 y1 y2 y3 V0 _ HCR.out ?hv).mono ?_); (case hv => (repeat (first | exact HV.out | apply below_alloc | apply below_drew))); rintro e v1 ⟨rfl, hb, hk⟩; (first | (have n3_ := Aside0.mk (hk _ _ HGk.out); clear HGk; have HGk := n3_; clear n3_) | (have HGk := Aside0.mk (hk _ _ (hk_new_blk _ _ _)); have HGe := Aside0.mk HV.out.size) | skip); (try (have hc0 := hk_blk_cell HGk.out 0 _ rfl; have hc1 := hk_blk_cell HGk.out 1 _ rfl; have hc2 := hk_blk_cell HGk.out 2 _ rfl; have hc3 := hk_blk_cell HGk.out 3 _ rfl; have hf0 := hk_blk_frozen HGk.out 0; have hf1 := hk_blk_frozen HGk.out 1; have hf2 := hk_blk_frozen HGk.out 2; have hf3 := hk_blk_frozen HGk.out 3)); have n0_ := Aside0.mk hb; clear HV hb hk; have HV := n0_; clear n0_))
            all_goals (go_wp2_with fail)
            all_goals go_meet
            all_goals
              case rel =>
                refine ⟨_, rfl, ⟨?_⟩, ⟨?_⟩, ⟨?_⟩⟩
                · (with_reducible repeat (first | exact HV.out | apply below_alloc | apply below_drew | refine below_set ?_ HGe.out | refine below_set ?_ HV.out.size))
                · first | (with_reducible exact hk_new_blk _ _ _) | (with_reducible exact hk_put4 _ _ _ _ HGk.out) | (with_reducible exact hk_put4 _ _ _ _ (hk_new_blk _ _ _))
                · first | (with_reducible exact HGe.out) | (with_reducible exact HV.out.size)
          case rest =>
            obtain ⟨g, rfl, HBc, HGc, HGe⟩ := hcut
            have hgd := Kd.R_lt D9.out gd rfl
            have hggd : g ≠ gd := by have := HGe.out; omega
            have H10 := Aside0.mk ((H9.out.below HBc.out).add HGc.out hggd)
            have D10 := Aside0.mk (Kd.R_below D9.out HBc.out)
            clear hgd hggd H9 D9 HV SV cX1 HBc HGc cb3
            have cq := H10.out.cell (List.Mem.tail _ (List.Mem.head _)) 0 _ rfl
            have ci := H10.out.cell (List.Mem.tail _ (List.Mem.tail _ (List.Mem.head _))) 0 _ rfl
            have cs := H10.out.cell (List.Mem.tail _ (List.Mem.tail _ (List.Mem.tail _ (List.Mem.tail _ (List.Mem.tail _ (List.Mem.head _)))))) 0 _ rfl
            go_wp2_with fail
            have h4s : s * 4 ≤ 1048576 := by have h5 : 4 * s ≤ n * s := Nat.mul_le_mul_right _ HSN.out.2; have := HN.out; have := HN2.out; omega
            obtain ⟨ta, hto⟩ : ∃ x, x = q + s * 4 * i := ⟨_, rfl⟩
            obtain ⟨t1, ht1⟩ : ∃ x, x = ta + s := ⟨_, rfl⟩
            obtain ⟨t2, ht2⟩ : ∃ x, x = ta + 2 * s := ⟨_, rfl⟩
            obtain ⟨t3, ht3⟩ : ∃ x, x = ta + 3 * s := ⟨_, rfl⟩
            obtain ⟨s2, hs2⟩ : ∃ x, x = 2 * s := ⟨_, rfl⟩
            obtain ⟨s3, hs3⟩ : ∃ x, x = 3 * s := ⟨_, rfl⟩
            have k0 : ta < src.length := by rw [hto]; have := T0.out; omega
            have k1' : t1 < src.length := by rw [ht1, hto]; have := T1.out; omega
            have k2' : t2 < src.length := by rw [ht2, hto]; exact T2.out
            have k3' : t3 < src.length := by rw [ht3, hto]; exact T3.out
            have hL := HN2.out
            rw [hk_to_ix hto (by omega) h4s]
            have hz4 := HZ3.out
            rw [← hto, ← ht1, ← ht2, ← ht3] at hz4
            have E1 := Aside0.mk (show IntKind.i64.wrap ((ta : Int) + (s : Int)) = (t1 : Int) by rw [← Int.natCast_add, ← ht1]; exact hk_wn (by omega))
            have E2a := Aside0.mk (show IntKind.i64.wrap (2 * (s : Int)) = (s2 : Int) by rw [hs2]; exact hk_wn (z := 2 * s) (by omega))
            have E3a := Aside0.mk (show IntKind.i64.wrap (3 * (s : Int)) = (s3 : Int) by rw [hs3]; exact hk_wn (z := 3 * s) (by omega))
            have E2 := Aside0.mk (show IntKind.i64.wrap ((ta : Int) + (s2 : Int)) = (t2 : Int) by rw [← Int.natCast_add, hs2, ← ht2]; exact hk_wn (by omega))
            have E3 := Aside0.mk (show IntKind.i64.wrap ((ta : Int) + (s3 : Int)) = (t3 : Int) by rw [← Int.natCast_add, hs3, ← ht3]; exact hk_wn (by omega))
            have HZ4 := Aside0.mk hz4
            have K0 := Aside0.mk k0
            have K1 := Aside0.mk k1'
            have K2 := Aside0.mk k2'
            have K3 := Aside0.mk k3'
            clear hto ht1 ht2 ht3 hs2 hs3 k0 k1' k2' k3' hL hz4 h4s cq ci cs
            have SQ := Aside0.mk (show ∀ V, hk_QE w0 w gp gs gd P pw.length cp cS cD u src [(g, .cells #[.int .u64 y0, .int .u64 y1, .int .u64 y2, .int .u64 y3] 67 (0, 0)), (b11, .cells #[.int .i64 (q : Int)] 3 (0, 0)), (b7, .cells #[.int .i64 (i : Int)] 3 (0, 0)), (b3, .cells #[.pointer (some ⟨gp, 0, none⟩)] 88 (0, 0)), (b4, .cells #[.int .i64 (n : Int)] 3 (0, 0)), (b5, .cells #[.int .i64 (s : Int)] 3 (0, 0))] V → V.cell? ⟨b3, 0, none⟩ = some (.pointer (some ⟨gp, 0, none⟩)) ∧ V.cell? ⟨gp, 3, none⟩ = some (.slice (some ⟨gd, 0, none⟩) src.length cD) ∧ V.cell? ⟨g, 0, none⟩ = some (.int .u64 y0) ∧ V.cell? ⟨b5, 0, none⟩ = some (.int .i64 (s : Int)) from fun V hV => ⟨hV.cell (List.Mem.tail _ (List.Mem.tail _ (List.Mem.tail _ (List.Mem.head _)))) 0 _ rfl, hk_blk_cell hV.hX 3 _ rfl, hV.cell (List.Mem.head _) 0 _ rfl, hV.cell (List.Mem.tail _ (List.Mem.tail _ (List.Mem.tail _ (List.Mem.tail _ (List.Mem.tail _ (List.Mem.head _)))))) 0 _ rfl⟩)
            obtain ⟨sq0, sq1, sq2, sq3⟩ := SQ.out _ H10.out
            obtain ⟨hx, hf⟩ := Kd.R_celln 0 D10.out (ta : Int) (by omega) (by have := K0.out; omega)
            rw [Int.toNat_natCast] at hx hf
            have p0 : ((ta : Int) < (src.length : Int)) = True := eq_true (by have := K0.out; omega)
            have p1 : (ta < src.length) = True := eq_true K0.out
            have HC := H10
            have DC := D10
            go_region_held3 (fun V => V.cell? ⟨b3, 0, none⟩ = some (.pointer (some ⟨gp, 0, none⟩)) ∧ V.cell? ⟨gp, 3, none⟩ = some (.slice (some ⟨gd, 0, none⟩) src.length cD) ∧ V.cell? ⟨g, 0, none⟩ = some (.int .u64 y0) ∧ V.cell? ⟨b5, 0, none⟩ = some (.int .i64 (s : Int))) (first | ((refine SQ.out _ ?_; (with_reducible repeat (first | exact HC.out | apply hk_QE.drew | apply hk_QE.set)); done)) | go_keep) (fail)
            have H11 := Aside0.mk ((HC.out.set ta (.int .u64 y0)).drew)
            have D11 := Aside0.mk (Kd.R_drew (Kd.R_putn DC.out (ta : Int) y0))
            rw [Int.toNat_natCast] at D11
            clear HC DC SQ hx hf p0 p1 sq0 sq1 sq2 sq3 H10 D10
            generalize (wc.setCell ⟨gd, ta, none⟩ (.int .u64 y0)).drew = V1 at H11 D11 ⊢
            go_wp2_with fail
            have SQ := Aside0.mk (show ∀ V, hk_QE w0 w gp gs gd P pw.length cp cS cD u src [(g, .cells #[.int .u64 y0, .int .u64 y1, .int .u64 y2, .int .u64 y3] 67 (0, 0)), (b11, .cells #[.int .i64 (q : Int)] 3 (0, 0)), (b7, .cells #[.int .i64 (i : Int)] 3 (0, 0)), (b3, .cells #[.pointer (some ⟨gp, 0, none⟩)] 88 (0, 0)), (b4, .cells #[.int .i64 (n : Int)] 3 (0, 0)), (b5, .cells #[.int .i64 (s : Int)] 3 (0, 0))] V → V.cell? ⟨b3, 0, none⟩ = some (.pointer (some ⟨gp, 0, none⟩)) ∧ V.cell? ⟨gp, 3, none⟩ = some (.slice (some ⟨gd, 0, none⟩) src.length cD) ∧ V.cell? ⟨g, 1, none⟩ = some (.int .u64 y1) ∧ V.cell? ⟨b5, 0, none⟩ = some (.int .i64 (s : Int)) from fun V hV => ⟨hV.cell (List.Mem.tail _ (List.Mem.tail _ (List.Mem.tail _ (List.Mem.head _)))) 0 _ rfl, hk_blk_cell hV.hX 3 _ rfl, hV.cell (List.Mem.head _) 1 _ rfl, hV.cell (List.Mem.tail _ (List.Mem.tail _ (List.Mem.tail _ (List.Mem.tail _ (List.Mem.tail _ (List.Mem.head _)))))) 0 _ rfl⟩)
            obtain ⟨sq0, sq1, sq2, sq3⟩ := SQ.out _ H11.out
            obtain ⟨hx, hf⟩ := Kd.R_celln 0 D11.out (t1 : Int) (by omega) (by have := K1.out; omega)
            rw [Int.toNat_natCast] at hx hf
            have p0 : ((t1 : Int) < (src.length : Int)) = True := eq_true (by have := K1.out; omega)
            have p1 : (t1 < src.length) = True := eq_true K1.out
            have e1 := E1.out
            have HC := H11
            have DC := D11
            go_region_held3 (fun V => V.cell? ⟨b3, 0, none⟩ = some (.pointer (some ⟨gp, 0, none⟩)) ∧ V.cell? ⟨gp, 3, none⟩ = some (.slice (some ⟨gd, 0, none⟩) src.length cD) ∧ V.cell? ⟨g, 1, none⟩ = some (.int .u64 y1) ∧ V.cell? ⟨b5, 0, none⟩ = some (.int .i64 (s : Int))) (first | ((refine SQ.out _ ?_; (with_reducible repeat (first | exact HC.out | apply hk_QE.drew | apply hk_QE.set)); done)) | go_keep) (first | (go_at_call 38; (with_reducible refine (gold_Mul.calls y1 (rd pw (m1 : Int)) z1 _ HG1.out).mono ?_); rintro e v1 ⟨rfl, hb1⟩; have n0_ := Aside0.mk (hk_QE.below (by (with_reducible repeat (first | exact HC.out | apply hk_QE.drew))) hb1); have n1_ := Aside0.mk (Kd.R_below (by (with_reducible repeat (first | exact DC.out | apply Kd.R_drew))) hb1); clear HC DC hx hf hb1; have HC := n0_; have DC := n1_; clear n0_ n1_; obtain ⟨hx, hf⟩ := Kd.R_celln 0 DC.out (t1 : Int) (by omega) (by have := K1.out; omega); rw [Int.toNat_natCast] at hx hf))
            have H12 := Aside0.mk (HC.out.set t1 (.int .u64 z1))
            have D12 := Aside0.mk (Kd.R_putn DC.out (t1 : Int) z1)
            rw [Int.toNat_natCast] at D12
            clear HC DC SQ hx hf p0 p1 sq0 sq1 sq2 sq3 H11 D11
            clear e1
            generalize v1.setCell ⟨gd, t1, none⟩ (.int .u64 z1) = V2 at H12 D12 ⊢
            go_wp2_with fail
            have SQ := Aside0.mk (show ∀ V, hk_QE w0 w gp gs gd P pw.length cp cS cD u src [(g, .cells #[.int .u64 y0, .int .u64 y1, .int .u64 y2, .int .u64 y3] 67 (0, 0)), (b11, .cells #[.int .i64 (q : Int)] 3 (0, 0)), (b7, .cells #[.int .i64 (i : Int)] 3 (0, 0)), (b3, .cells #[.pointer (some ⟨gp, 0, none⟩)] 88 (0, 0)), (b4, .cells #[.int .i64 (n : Int)] 3 (0, 0)), (b5, .cells #[.int .i64 (s : Int)] 3 (0, 0))] V → V.cell? ⟨b3, 0, none⟩ = some (.pointer (some ⟨gp, 0, none⟩)) ∧ V.cell? ⟨gp, 3, none⟩ = some (.slice (some ⟨gd, 0, none⟩) src.length cD) ∧ V.cell? ⟨g, 2, none⟩ = some (.int .u64 y2) ∧ V.cell? ⟨b5, 0, none⟩ = some (.int .i64 (s : Int)) from fun V hV => ⟨hV.cell (List.Mem.tail _ (List.Mem.tail _ (List.Mem.tail _ (List.Mem.head _)))) 0 _ rfl, hk_blk_cell hV.hX 3 _ rfl, hV.cell (List.Mem.head _) 2 _ rfl, hV.cell (List.Mem.tail _ (List.Mem.tail _ (List.Mem.tail _ (List.Mem.tail _ (List.Mem.tail _ (List.Mem.head _)))))) 0 _ rfl⟩)
            obtain ⟨sq0, sq1, sq2, sq3⟩ := SQ.out _ H12.out
            obtain ⟨hx, hf⟩ := Kd.R_celln 0 D12.out (t2 : Int) (by omega) (by have := K2.out; omega)
            rw [Int.toNat_natCast] at hx hf
            have p0 : ((t2 : Int) < (src.length : Int)) = True := eq_true (by have := K2.out; omega)
            have p1 : (t2 < src.length) = True := eq_true K2.out
            have e1 := E2a.out
            have e2 := E2.out
            have HC := H12
            have DC := D12
            go_region_held3 (fun V => V.cell? ⟨b3, 0, none⟩ = some (.pointer (some ⟨gp, 0, none⟩)) ∧ V.cell? ⟨gp, 3, none⟩ = some (.slice (some ⟨gd, 0, none⟩) src.length cD) ∧ V.cell? ⟨g, 2, none⟩ = some (.int .u64 y2) ∧ V.cell? ⟨b5, 0, none⟩ = some (.int .i64 (s : Int))) (first | ((refine SQ.out _ ?_; (with_reducible repeat (first | exact HC.out | apply hk_QE.drew | apply hk_QE.set)); done)) | go_keep) (first | (go_at_call 38; (with_reducible refine (gold_Mul.calls y2 (rd pw (m2 : Int)) z2 _ HG2.out).mono ?_); rintro e v2 ⟨rfl, hb1⟩; have n0_ := Aside0.mk (hk_QE.below (by (with_reducible repeat (first | exact HC.out | apply hk_QE.drew))) hb1); have n1_ := Aside0.mk (Kd.R_below (by (with_reducible repeat (first | exact DC.out | apply Kd.R_drew))) hb1); clear HC DC hx hf hb1; have HC := n0_; have DC := n1_; clear n0_ n1_; obtain ⟨hx, hf⟩ := Kd.R_celln 0 DC.out (t2 : Int) (by omega) (by have := K2.out; omega); rw [Int.toNat_natCast] at hx hf))
            have H13 := Aside0.mk (HC.out.set t2 (.int .u64 z2))
            have D13 := Aside0.mk (Kd.R_putn DC.out (t2 : Int) z2)
            rw [Int.toNat_natCast] at D13
            clear HC DC SQ hx hf p0 p1 sq0 sq1 sq2 sq3 H12 D12
            clear e1 e2
            generalize v2.setCell ⟨gd, t2, none⟩ (.int .u64 z2) = V3 at H13 D13 ⊢
            go_wp2_with fail
            have SQ := Aside0.mk (show ∀ V, hk_QE w0 w gp gs gd P pw.length cp cS cD u src [(g, .cells #[.int .u64 y0, .int .u64 y1, .int .u64 y2, .int .u64 y3] 67 (0, 0)), (b11, .cells #[.int .i64 (q : Int)] 3 (0, 0)), (b7, .cells #[.int .i64 (i : Int)] 3 (0, 0)), (b3, .cells #[.pointer (some ⟨gp, 0, none⟩)] 88 (0, 0)), (b4, .cells #[.int .i64 (n : Int)] 3 (0, 0)), (b5, .cells #[.int .i64 (s : Int)] 3 (0, 0))] V → V.cell? ⟨b3, 0, none⟩ = some (.pointer (some ⟨gp, 0, none⟩)) ∧ V.cell? ⟨gp, 3, none⟩ = some (.slice (some ⟨gd, 0, none⟩) src.length cD) ∧ V.cell? ⟨g, 3, none⟩ = some (.int .u64 y3) ∧ V.cell? ⟨b5, 0, none⟩ = some (.int .i64 (s : Int)) from fun V hV => ⟨hV.cell (List.Mem.tail _ (List.Mem.tail _ (List.Mem.tail _ (List.Mem.head _)))) 0 _ rfl, hk_blk_cell hV.hX 3 _ rfl, hV.cell (List.Mem.head _) 3 _ rfl, hV.cell (List.Mem.tail _ (List.Mem.tail _ (List.Mem.tail _ (List.Mem.tail _ (List.Mem.tail _ (List.Mem.head _)))))) 0 _ rfl⟩)
            obtain ⟨sq0, sq1, sq2, sq3⟩ := SQ.out _ H13.out
            obtain ⟨hx, hf⟩ := Kd.R_celln 0 D13.out (t3 : Int) (by omega) (by have := K3.out; omega)
            rw [Int.toNat_natCast] at hx hf
            have p0 : ((t3 : Int) < (src.length : Int)) = True := eq_true (by have := K3.out; omega)
            have p1 : (t3 < src.length) = True := eq_true K3.out
            have e1 := E3a.out
            have e2 := E3.out
            have HC := H13
            have DC := D13
            go_region_held3 (fun V => V.cell? ⟨b3, 0, none⟩ = some (.pointer (some ⟨gp, 0, none⟩)) ∧ V.cell? ⟨gp, 3, none⟩ = some (.slice (some ⟨gd, 0, none⟩) src.length cD) ∧ V.cell? ⟨g, 3, none⟩ = some (.int .u64 y3) ∧ V.cell? ⟨b5, 0, none⟩ = some (.int .i64 (s : Int))) (first | ((refine SQ.out _ ?_; (with_reducible repeat (first | exact HC.out | apply hk_QE.drew | apply hk_QE.set)); done)) | go_keep) (first | (go_at_call 38; (with_reducible refine (gold_Mul.calls y3 (rd pw (m3 : Int)) z3 _ HG3.out).mono ?_); rintro e v3 ⟨rfl, hb1⟩; have n0_ := Aside0.mk (hk_QE.below (by (with_reducible repeat (first | exact HC.out | apply hk_QE.drew))) hb1); have n1_ := Aside0.mk (Kd.R_below (by (with_reducible repeat (first | exact DC.out | apply Kd.R_drew))) hb1); clear HC DC hx hf hb1; have HC := n0_; have DC := n1_; clear n0_ n1_; obtain ⟨hx, hf⟩ := Kd.R_celln 0 DC.out (t3 : Int) (by omega) (by have := K3.out; omega); rw [Int.toNat_natCast] at hx hf))
            have H14 := Aside0.mk (HC.out.set t3 (.int .u64 z3))
            have D14 := Aside0.mk (Kd.R_putn DC.out (t3 : Int) z3)
            rw [Int.toNat_natCast] at D14
            clear HC DC SQ hx hf p0 p1 sq0 sq1 sq2 sq3 H13 D13
            clear e1 e2
            generalize v3.setCell ⟨gd, t3, none⟩ (.int .u64 z3) = V4 at H14 D14 ⊢
            go_wp2_with fail
            rw [HZ4.out] at D14
            go_roundg k2
            case measure => omega
            case rel => exact ⟨q + 1, z', (by rw [show wrap64 ((q : Int) + 1) = ((q + 1 : Nat) : Int) by have := HJ.out; have h5 : s ≤ n * s := Nat.le_mul_of_pos_left _ (by have := HSN.out.2; omega); have := HN.out; have := HN2.out; unfold wrap64; omega]), ⟨by have := HJ.out; omega⟩, HZ', ⟨H14.out.sub (fun p hp => List.mem_cons_of_mem _ (List.mem_cons_of_mem _ hp))⟩, D14⟩

/-! ### kern4_pass_half: function 64 (by hand) -/
/-- Two words of a last pass. -/
def hk_hstep (src : List Int) (s q : Nat) (d : List Int) : Option (List Int) :=
  (gold_Add.f (rd src (q : Int)) (rd src ((q + s : Nat) : Int))).bind fun x => (gold_Sub.f (rd src (q : Int)) (rd src ((q + s : Nat) : Int))).bind fun y => some ((d.set q x).set (q + s) y)
def hk_hin (src : List Int) (s : Nat) (d : List Int) : Nat → Option (List Int)
  | 0 => some d
  | q + 1 => (hk_hin src s d q).bind (hk_hstep src s q)
theorem hk_hin_down {src : List Int} {s : Nat} {d : List Int} : ∀ {j m : Nat} {r : List Int}, hk_hin src s d (j + m) = some r → ∃ x, hk_hin src s d j = some x
  | j, 0, r, h => ⟨r, h⟩
  | j, m + 1, r, h => by
    unfold hk_hin at h
    obtain ⟨x, hx, _⟩ := Option.bind_eq_some_iff.1 h
    exact hk_hin_down (m := m) hx
set_option maxHeartbeats 40000000 in
set_option maxRecDepth 100000 in
theorem kern4_half.calls (s : Nat) (u : Int) (gp gs gd : Nat) (P : Option Addr) (cp cS cD np : Nat) (src d r : List Int) (w0 w : World) (hB : Below w0.heap.size w0 w)
    (hX : w.heap[gp]? = some (.cells #[.slice P np cp, .int .u64 u, .slice (some ⟨gs, 0, none⟩) src.length cS, .slice (some ⟨gd, 0, none⟩) src.length cD] 90 (0, 0)))
    (hSr : Kd.R (Kd.int .u64) 32 w w0.heap.size (fun j => j = gs) (.slice (some ⟨gs, 0, none⟩) src.length cS) src) (hDr : Kd.R (Kd.int .u64) 32 w w0.heap.size (fun j => j = gd) (.slice (some ⟨gd, 0, none⟩) src.length cD) d)
    (hgp : w0.heap.size ≤ gp) (hne1 : gs ≠ gp) (hne2 : gd ≠ gp) (hne3 : gs ≠ gd) (hs : 0 < s) (hN : src.length = 2 * s) (hN2 : src.length ≤ 1048576) (h : hk_hin src s d s = some r) :
    Calls Tryd.prog 64 #[.pointer (some ⟨gp, 0, none⟩), .int .i64 s] w fun e w' => e = .returned (.tuple #[]) ∧ Below w0.heap.size w0 w' ∧ Kept w w' (fun j => j = gp ∨ j = gd) ∧
      w'.heap[gp]? = some (.cells #[.slice P np cp, .int .u64 u, .slice (some ⟨gd, 0, none⟩) src.length cD, .slice (some ⟨gs, 0, none⟩) src.length cS] 90 (0, 0)) ∧
      Kd.R (Kd.int .u64) 32 w' w0.heap.size (fun j => j = gd) (.slice (some ⟨gd, 0, none⟩) src.length cD) r := by
  have hgd0 : w0.heap.size ≤ gd := by
    obtain ⟨g', c', e', hb', _⟩ := Kd.R_form hDr (by
      have := Kd.R_reads' hDr
      rw [← this.1, hN]; omega)
    injection e' with e1; injection e1 with e1; injection e1 with e1; rw [e1]; exact hb'
  have Q0 := Aside0.mk (show hk_QE w0 w gp gs gd P np cp cS cD u src [] w from ⟨hB, Kept.refl _ _, hX, hSr, fun p hp => (by cases hp), hgd0, Ne.symm hne2, hne3⟩)
  have D0 := Aside0.mk hDr
  have HGP := Aside0.mk hgp
  have HN := Aside0.mk hN
  have HN2 := Aside0.mk hN2
  have HS := Aside0.mk hs
  have HH := Aside0.mk h
  clear hB hX hSr hDr hgp hne1 hne2 hne3 hs hN hN2 h hgd0
  go_enter Tryd.func64, Tryd.ntmps64
  go_wp2_with fail
  go_loopg [8] s (fun kq v8 w' => ∃ (q : Nat) (z : List Int), v8 = .int .i64 (q : Int) ∧ Aside0 (kq + q = s) ∧ Aside0 (hk_hin src s d q = some z) ∧ Aside0 (hk_QE w0 w gp gs gd P np cp cS cD u src [] w') ∧ Aside0 (Kd.R (Kd.int .u64) 32 w' w0.heap.size (fun j => j = gd) (.slice (some ⟨gd, 0, none⟩) src.length cD) z))
  case atStart => exact ⟨0, d, by simp, ⟨by omega⟩, ⟨rfl⟩, Q0, D0⟩
  case round =>
    obtain ⟨q, z, rfl, HJ, Hz, HQ, HDz⟩ := hrel
    clear Q0 D0
    cases gk with
    | zero =>
      have hj := HJ.out
      have c1 : decide ((q : Int) < (s : Int)) = false := decide_eq_false (by omega)
      have c2 : (q < s) = False := eq_false (by omega)
      have e : q = s := by omega
      rw [e] at Hz
      have er : z = r := by have h1 := Hz.out; rw [HH.out] at h1; injection h1 with h1; exact h1.symm
      rw [er] at HDz
      clear hj e er
      go_wp2_with fail
      have cX0 := hk_blk_cell HQ.out.hX 0 _ rfl
      have cX2 := hk_blk_cell HQ.out.hX 2 _ rfl
      have cX3 := hk_blk_cell HQ.out.hX 3 _ rfl
      have fX2 := hk_blk_frozen HQ.out.hX 2
      have fX3 := hk_blk_frozen HQ.out.hX 3
      go_region
      all_goals
        obtain ⟨q1, q2, q3, q4⟩ := HQ.out.swap HGP.out HDz.out
        go_end0
        exact ⟨rfl, q1, q2, q3, q4⟩
    | succ k2 =>
      have hj := HJ.out
      have hqs : q < s := by omega
      have c1 : decide ((q : Int) < (s : Int)) = true := decide_eq_true (by omega)
      have c2 : (q < s) = True := eq_true hqs
      have hdz : ∃ z', hk_hin src s d (q + 1) = some z' := hk_hin_down (m := k2) (by rw [show q + 1 + k2 = s by omega]; exact HH.out)
      obtain ⟨z', hz'⟩ := hdz
      have hz2 := hz'
      unfold hk_hin at hz2
      rw [Hz.out, Option.bind_some] at hz2
      unfold hk_hstep at hz2
      obtain ⟨k, hk⟩ : ∃ x, x = q + s := ⟨_, rfl⟩
      rw [← hk] at hz2
      obtain ⟨x, hg1, hz2⟩ := Option.bind_eq_some_iff.1 hz2
      obtain ⟨y, hg2, hz2⟩ := Option.bind_eq_some_iff.1 hz2
      have hz3 := Option.some.inj hz2
      have HZ' := Aside0.mk hz'
      have HG1 := Aside0.mk hg1
      have HG2 := Aside0.mk hg2
      have HZ3 := Aside0.mk hz3
      have hN := HN.out
      have hN2 := HN2.out
      have hs := HS.out
      have K0 := Aside0.mk (show q < src.length by omega)
      have K1 := Aside0.mk (show k < src.length by omega)
      have KN := Aside0.mk (show q ≠ k by omega)
      have E1 : IntKind.i64.wrap ((q : Int) + (s : Int)) = (k : Int) := by rw [← Int.natCast_add, ← hk]; exact hk_wn (by omega)
      clear hj hqs hz' hz2 hz3 hg1 hg2 hN hN2 hs hk
      go_wp2_with fail
      have cX2 := hk_blk_cell HQ.out.hX 2 _ rfl
      obtain ⟨ad, ea, hx1⟩ := Kd.at_int (Kd.R_reads' HQ.out.hS).2.2 (q : Int) (by omega) (by have := K0.out; omega)
      obtain ⟨ad2, ea2, hx2⟩ := Kd.at_int (Kd.R_reads' HQ.out.hS).2.2 (k : Int) (by omega) (by have := K1.out; omega)
      cases ea
      cases ea2
      rw [Int.toNat_natCast] at hx1 hx2
      replace hx1 : wr.cell? ⟨gs, q, none⟩ = some (.int .u64 (rd src (q : Int))) := by by_cases c : q = 0 <;> simpa [Addr.add, c] using hx1
      replace hx2 : wr.cell? ⟨gs, k, none⟩ = some (.int .u64 (rd src (k : Int))) := by by_cases c : k = 0 <;> simpa [Addr.add, c] using hx2
      have p0 : ((q : Int) < (src.length : Int)) = True := eq_true (by have := K0.out; omega)
      have p1 : ((k : Int) < (src.length : Int)) = True := eq_true (by have := K1.out; omega)
      have p0' : (q < src.length) = True := eq_true K0.out
      have p1' : (k < src.length) = True := eq_true K1.out
      go_quiet (skip)
      clear cX2 hx1 hx2
      have H1 := Aside0.mk (HQ.out.drewN nq)
      have D1 := Aside0.mk (Kd.R_drewN HDz.out nq)
      generalize wr.drewN nq = W1 at H1 D1 ⊢
      go_wp2_with fail
      have cX3 := hk_blk_cell H1.out.hX 3 _ rfl
      have SQ := Aside0.mk (show ∀ V, hk_QE w0 w gp gs gd P np cp cS cD u src [] V → V.cell? ⟨gp, 3, none⟩ = some (.slice (some ⟨gd, 0, none⟩) src.length cD) from fun V hV => hk_blk_cell hV.hX 3 _ rfl)
      have HC := H1
      have DC := D1
      clear H1 D1
      go_region_held3 (fun V => V.cell? ⟨gp, 3, none⟩ = some (.slice (some ⟨gd, 0, none⟩) src.length cD)) (first | (exact cX3) | ((refine SQ.out _ ?_; (with_reducible repeat (first | exact HC.out | apply hk_QE.drew | apply hk_QE.set)); done)) | go_keep)
        (first | (go_at_call 39; (with_reducible refine (gold_Add.calls (rd src (q : Int)) (rd src (k : Int)) x _ HG1.out).mono ?_); rintro e v1 ⟨rfl, hb1⟩; have n0_ := Aside0.mk (hk_QE.below (by (with_reducible repeat (first | exact HC.out | apply hk_QE.drew))) hb1); have n1_ := Aside0.mk (Kd.R_below (by (with_reducible repeat (first | exact DC.out | apply Kd.R_drew))) hb1); clear HC DC hb1; have HC := n0_; have DC := n1_; clear n0_ n1_) | (go_at_call 40; (with_reducible refine (gold_Sub.calls (rd src (q : Int)) (rd src (k : Int)) y _ HG2.out).mono ?_); rintro e v2 ⟨rfl, hb1⟩; have n0_ := Aside0.mk (hk_QE.below (by (with_reducible repeat (first | exact HC.out | apply hk_QE.drew))) hb1); have n1_ := Aside0.mk (Kd.R_below (by (with_reducible repeat (first | exact DC.out | apply Kd.R_drew))) hb1); clear HC DC hb1; have HC := n0_; have DC := n1_; clear n0_ n1_; obtain ⟨hx, hf⟩ := Kd.R_celln 0 DC.out (q : Int) (by omega) (by have := K0.out; omega); have DP := Kd.R_putn DC.out (q : Int) x; obtain ⟨hx2, hf2⟩ := Kd.R_celln 0 DP (k : Int) (by omega) (by have := K1.out; omega); have DP := Aside0.mk DP; obtain ⟨hx3, hf3⟩ := Kd.R_celln 0 DC.out (k : Int) (by omega) (by have := K1.out; omega); rw [Int.toNat_natCast] at hx hf hx2 hf2 hx3 hf3 DP; have kn := KN.out))
      have H2 := Aside0.mk ((HC.out.set q (.int .u64 x)).set k (.int .u64 y))
      have D2 := Aside0.mk (Kd.R_putn DP.out (k : Int) y)
      rw [Int.toNat_natCast, HZ3.out] at D2
      clear HC DC DP hx hf hx2 hf2 hx3 hf3 kn cX3 SQ p0 p1 p0' p1' c1 c2 E1
      generalize (v2.setCell ⟨gd, q, none⟩ (.int .u64 x)).setCell ⟨gd, k, none⟩ (.int .u64 y) = W2 at H2 D2 ⊢
      go_wp2_with fail
      go_roundg k2
      case measure => omega
      case rel => exact ⟨q + 1, z', (by rw [show wrap64 ((q : Int) + 1) = ((q + 1 : Nat) : Int) by have := HJ.out; have := HN.out; have := HN2.out; unfold wrap64; omega]), ⟨by have := HJ.out; omega⟩, HZ', H2, D2⟩

end Go.Proofs.YtggmpdmlbjllhaaDoor.PQuartersAlike
