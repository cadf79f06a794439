-- Written for this claim by wip/gen/mk.sh, this session's own driver over the kit's print
import Derived.Test.YtaiahgnkgbfcfaaDoorPNaturalTextsx0
import Derived.Test.YtaiahgnkgbfcfaaDoorPNaturalTextsx1
import Derived.Test.YtaiahgnkgbfcfaaDoorPNaturalTextsx3
namespace Go.Proofs.YtaiahgnkgbfcfaaDoor.PNaturalTexts
open Go.RowKit Go.Proofs.YtaiahgnkgbfcfaaDoorW.PrintWords Go.Proofs.YtaiahgnkgbfcfaaDoorW.PrintLast Go.Proofs.YtaiahgnkgbfcfaaDoorW.PrintMore
attribute [local go_sem] max2_int min2_int max_two min_two max_three min_three max_four min_four   -- for this text's walks alone
set_option linter.unusedVariables false
set_option linter.unusedSimpArgs false

/-! ### kern4_pass_quarter: function 75 (by hand) -/
theorem hk_quarter1_ix {n q s i j X : Nat} (h : X = q + s * (i + j * (n / 4))) (hX : X ≤ 1048576) (hn : n ≤ 1048576) (hs : 0 < s) : IntKind.i64.wrap ((q : Int) + IntKind.i64.wrap ((s : Int) * IntKind.i64.wrap ((i : Int) + IntKind.i64.wrap ((j : Int) * IntKind.i64.wrap ((n : Int).tdiv 4))))) = (X : Int) := by
  have h1 : i + j * (n / 4) ≤ s * (i + j * (n / 4)) := Nat.le_mul_of_pos_left _ hs
  have h2 : s * (i + j * (n / 4)) ≤ X := by rw [h]; exact Nat.le_add_left _ _
  have h3 : i + j * (n / 4) ≤ 1048576 := Nat.le_trans h1 (Nat.le_trans h2 hX)
  have h4 : j * (n / 4) ≤ 1048576 := Nat.le_trans (Nat.le_add_left _ _) h3
  have e0 : (n : Int).tdiv 4 = ((n / 4 : Nat) : Int) := by rw [Int.tdiv_eq_ediv_of_nonneg (by omega)]; rfl
  rw [e0, hk_wn (show n / 4 ≤ 1048576 by omega), ← Int.natCast_mul, hk_wn h4, ← Int.natCast_add, hk_wn h3, ← Int.natCast_mul, hk_wn (Nat.le_trans h2 hX), ← Int.natCast_add, ← h, hk_wn hX]
set_option maxHeartbeats 800000 in
set_option maxRecDepth 100000 in
theorem hk_quarter1.calls (j n q s i : Int) (X : Nat) (b1 b2 b3 b4 b5 gp : Nat) (S : Option Addr) (cS : Nat) (L : List Int) (w : World)
    (h1 : w.cell? ⟨b1, 0, none⟩ = some (.pointer (some ⟨gp, 0, none⟩))) (h2 : w.cell? ⟨b2, 0, none⟩ = some (.int .i64 q)) (h3 : w.cell? ⟨b3, 0, none⟩ = some (.int .i64 s)) (h4 : w.cell? ⟨b4, 0, none⟩ = some (.int .i64 i)) (h5 : w.cell? ⟨b5, 0, none⟩ = some (.int .i64 n))
    (hp : w.cell? ⟨gp, 2, none⟩ = some (.slice S L.length cS)) (hS : Kd.C (Kd.int .u64) w S L.length L) (hX : IntKind.i64.wrap (q + IntKind.i64.wrap (s * IntKind.i64.wrap (i + IntKind.i64.wrap (j * IntKind.i64.wrap (n.tdiv 4))))) = (X : Int)) (hl : X < L.length) (hn : 0 ≤ n) :
    Calls Tryd.prog 82 #[.int .i64 j, .pointer (some ⟨b1, 0, none⟩), .pointer (some ⟨b2, 0, none⟩), .pointer (some ⟨b3, 0, none⟩), .pointer (some ⟨b4, 0, none⟩), .pointer (some ⟨b5, 0, none⟩)] w fun e w' => e = .returned (.int .u64 (rd L (X : Int))) ∧ Drawn0 w w' := by
  obtain ⟨ad, eS, hx⟩ := Kd.at_int hS (X : Int) (by omega) (by omega)
  subst eS
  rw [Int.toNat_natCast] at hx
  have p0 : (0 ≤ (X : Int)) = True := eq_true (by omega)
  have p1 : ((X : Int) < (L.length : Int)) = True := eq_true (by omega)
  clear hS hl
  go_enter Tryd.func82, Tryd.ntmps82
  go_wp2
  go_quiet (skip)
  go_wp2
  go_ret
  exact ⟨rfl, ⟨_, rfl⟩⟩
/-- One crossing, laid where it belongs. -/
def hk_qstep (pw src : List Int) (u : Int) (n s st i q : Nat) (d : List Int) : Option (List Int) :=
  (hk_crossO (rd src ((q + s * (i + 0 * (n / 4)) : Nat) : Int)) (rd src ((q + s * (i + 1 * (n / 4)) : Nat) : Int)) (rd src ((q + s * (i + 2 * (n / 4)) : Nat) : Int)) (rd src ((q + s * (i + 3 * (n / 4)) : Nat) : Int)) u).bind fun y =>
  (gold_Mul.f y.2.1 (rd pw ((i * st : Nat) : Int))).bind fun z1 => (gold_Mul.f y.2.2.1 (rd pw ((2 * i * st : Nat) : Int))).bind fun z2 => (gold_Mul.f y.2.2.2 (rd pw ((3 * i * st : Nat) : Int))).bind fun z3 =>
  some ((((d.set (q + s * 4 * i) y.1).set (q + s * 4 * i + s) z1).set (q + s * 4 * i + 2 * s) z2).set (q + s * 4 * i + 3 * s) z3)
def hk_qin (pw src : List Int) (u : Int) (n s st i : Nat) (d : List Int) : Nat → Option (List Int)
  | 0 => some d
  | q + 1 => (hk_qin pw src u n s st i d q).bind (hk_qstep pw src u n s st i q)
def hk_qout (pw src : List Int) (u : Int) (n s st : Nat) (d : List Int) : Nat → Option (List Int)
  | 0 => some d
  | i + 1 => (hk_qout pw src u n s st d i).bind fun x => hk_qin pw src u n s st i x s
theorem hk_qin_down {pw src : List Int} {u : Int} {n s st i : Nat} {d : List Int} : ∀ {j m : Nat} {r : List Int}, hk_qin pw src u n s st i d (j + m) = some r → ∃ x, hk_qin pw src u n s st i d j = some x
  | j, 0, r, h => ⟨r, h⟩
  | j, m + 1, r, h => by
    unfold hk_qin at h
    obtain ⟨x, hx, _⟩ := Option.bind_eq_some_iff.1 h
    exact hk_qin_down (m := m) hx
theorem hk_qout_down {pw src : List Int} {u : Int} {n s st : Nat} {d : List Int} : ∀ {j m : Nat} {r : List Int}, hk_qout pw src u n s st d (j + m) = some r → ∃ x, hk_qout pw src u n s st d j = some x
  | j, 0, r, h => ⟨r, h⟩
  | j, m + 1, r, h => by
    unfold hk_qout at h
    obtain ⟨x, hx, _⟩ := Option.bind_eq_some_iff.1 h
    exact hk_qout_down (m := m) hx
theorem hk_to_ix {q s i ta : Nat} (h : ta = q + s * 4 * i) (h1 : ta ≤ 1048576) (h2 : s * 4 ≤ 1048576) : wrap64 ((q : Int) + wrap64 (wrap64 ((s : Int) * 4) * (i : Int))) = (ta : Int) := by
  have h3 : s * 4 * i ≤ 1048576 := Nat.le_trans (by rw [h]; exact Nat.le_add_left _ _) h1
  have e1 : wrap64 ((s : Int) * 4) = ((s * 4 : Nat) : Int) := by rw [← i64_w]; exact hk_wn (z := s * 4) h2
  rw [e1, ← i64_w, ← i64_w, ← Int.natCast_mul, hk_wn h3, ← Int.natCast_add, ← h, hk_wn h1]
theorem hk_quarter1.of (w0 w W : World) (gp gs gd b3 b4 b5 b7 b11 : Nat) (P : Option Addr) (np cp cS cD : Nat) (u : Int) (src : List Int) (n s i q : Nat) (j : Int) (X : Nat)
    (h : hk_QE w0 w gp gs gd P np cp cS cD u src [(b11, .cells #[.int .i64 (q : Int)] 3 (0, 0)), (b7, .cells #[.int .i64 (i : Int)] 3 (0, 0)), (b3, .cells #[.pointer (some ⟨gp, 0, none⟩)] 103 (0, 0)), (b4, .cells #[.int .i64 (n : Int)] 3 (0, 0)), (b5, .cells #[.int .i64 (s : Int)] 3 (0, 0))] W)
    (hX : IntKind.i64.wrap ((q : Int) + IntKind.i64.wrap ((s : Int) * IntKind.i64.wrap ((i : Int) + IntKind.i64.wrap (j * IntKind.i64.wrap ((n : Int).tdiv 4))))) = (X : Int)) (hl : X < src.length) :
    Calls Tryd.prog 82 #[.int .i64 j, .pointer (some ⟨b3, 0, none⟩), .pointer (some ⟨b11, 0, none⟩), .pointer (some ⟨b5, 0, none⟩), .pointer (some ⟨b7, 0, none⟩), .pointer (some ⟨b4, 0, none⟩)] W fun e w' => e = .returned (.int .u64 (rd src (X : Int))) ∧ Drawn0 W w' :=
  hk_quarter1.calls j n q s i X b3 b11 b5 b7 b4 gp (some ⟨gs, 0, none⟩) cS src W (h.cell (List.Mem.tail _ (List.Mem.tail _ (List.Mem.head _))) 0 _ rfl) (h.cell (List.Mem.head _) 0 _ rfl) (h.cell (List.Mem.tail _ (List.Mem.tail _ (List.Mem.tail _ (List.Mem.tail _ (List.Mem.head _))))) 0 _ rfl) (h.cell (List.Mem.tail _ (List.Mem.head _)) 0 _ rfl) (h.cell (List.Mem.tail _ (List.Mem.tail _ (List.Mem.tail _ (List.Mem.head _)))) 0 _ rfl) (hk_blk_cell h.hX 2 _ rfl) (Kd.R_reads' h.hS).2.2 hX hl (by omega)
theorem hk_new_blk (W : World) (cs : Array Value) (t : TypeId) : (W.alloc (.cells cs t)).heap[W.heap.size]? = some (.cells cs t (0, 0)) := show (W.heap.push _)[W.heap.size]? = _ from Array.getElem?_push_size
theorem hk_put4 {W : World} {g : Nat} {t : TypeId} {v0 v1 v2 v3 : Value} (a b c d : Value) (h : W.heap[g]? = some (.cells #[v0, v1, v2, v3] t (0, 0))) : ((((W.setCell ⟨g, 0, none⟩ a).setCell ⟨g, 1, none⟩ b).setCell ⟨g, 2, none⟩ c).setCell ⟨g, 3, none⟩ d).heap[g]? = some (.cells #[a, b, c, d] t (0, 0)) :=
  blk_put (blk_put (blk_put (blk_put h 0 a rfl) 1 b rfl) 2 c rfl) 3 d rfl
theorem hk_quarter1.of' (w0 w V0 W : World) (gp gs gd b3 b4 b5 b7 b11 : Nat) (P : Option Addr) (np cp cS cD : Nat) (u : Int) (src : List Int) (n s i q : Nat) (j : Int) (X : Nat)
    (h : hk_QE w0 w gp gs gd P np cp cS cD u src [(b11, .cells #[.int .i64 (q : Int)] 3 (0, 0)), (b7, .cells #[.int .i64 (i : Int)] 3 (0, 0)), (b3, .cells #[.pointer (some ⟨gp, 0, none⟩)] 103 (0, 0)), (b4, .cells #[.int .i64 (n : Int)] 3 (0, 0)), (b5, .cells #[.int .i64 (s : Int)] 3 (0, 0))] V0) (hv : Below V0.heap.size V0 W)
    (hX : IntKind.i64.wrap ((q : Int) + IntKind.i64.wrap ((s : Int) * IntKind.i64.wrap ((i : Int) + IntKind.i64.wrap (j * IntKind.i64.wrap ((n : Int).tdiv 4))))) = (X : Int)) (hl : X < src.length) :
    Calls Tryd.prog 82 #[.int .i64 j, .pointer (some ⟨b3, 0, none⟩), .pointer (some ⟨b11, 0, none⟩), .pointer (some ⟨b5, 0, none⟩), .pointer (some ⟨b7, 0, none⟩), .pointer (some ⟨b4, 0, none⟩)] W fun e w' => e = .returned (.int .u64 (rd src (X : Int))) ∧ Below V0.heap.size V0 w' ∧ ∀ (g : Nat) (o : Obj), W.heap[g]? = some o → w'.heap[g]? = some o :=
  (hk_quarter1.of w0 w W gp gs gd b3 b4 b5 b7 b11 P np cp cS cD u src n s i q j X (h.below hv) hX hl).mono (fun e w' hh => ⟨hh.1, hv.trans ((hk_drawn_below hh.2).mono hv.size), fun g o hg => ((hk_drawn_below hh.2).block g (blk_lt hg)).trans hg⟩)
theorem kern4_Cross.of (a b c d u y0 y1 y2 y3 : Int) (V0 W : World) (h : hk_crossO a b c d u = some (y0, y1, y2, y3)) (hv : Below V0.heap.size V0 W) :
    Calls Tryd.prog 83 #[.int .u64 a, .int .u64 b, .int .u64 c, .int .u64 d, .int .u64 u] W fun e w' => e = .returned (.agg #[.int .u64 y0, .int .u64 y1, .int .u64 y2, .int .u64 y3]) ∧ Below V0.heap.size V0 w' ∧ ∀ (g : Nat) (o : Obj), W.heap[g]? = some o → w'.heap[g]? = some o :=
  (kern4_Cross.callsO a b c d u y0 y1 y2 y3 W h).mono (fun e w' hh => ⟨hh.1, hv.trans (hh.2.mono hv.size), fun g o hg => (hh.2.block g (blk_lt hg)).trans hg⟩)
theorem hk_ix_lt {n s i q j L : Nat} (hL : L = n * s) (hi : i < n / 4) (hq : q < s) (hj : j < 4) : q + s * (i + j * (n / 4)) < L := by
  have h1 : i + j * (n / 4) + 1 ≤ n := by
    have h2 : j * (n / 4) ≤ 3 * (n / 4) := Nat.mul_le_mul_right _ (by omega)
    omega
  have h3 : (i + j * (n / 4) + 1) * s ≤ n * s := Nat.mul_le_mul_right _ h1
  rw [Nat.add_mul, Nat.one_mul, Nat.mul_comm _ s] at h3
  omega
theorem hk_to_lt {n s i q j L : Nat} (hL : L = n * s) (hi : i < n / 4) (hq : q < s) (hj : j < 4) : q + s * 4 * i + j * s < L := by
  have h1 : 4 * i + j + 1 ≤ n := by omega
  have h3 : (4 * i + j + 1) * s ≤ n * s := Nat.mul_le_mul_right _ h1
  have e : s * 4 * i = 4 * i * s := by rw [Nat.mul_assoc, Nat.mul_comm]
  rw [Nat.add_mul, Nat.add_mul, Nat.one_mul] at h3
  omega
set_option maxHeartbeats 40000000 in
set_option maxRecDepth 100000 in
theorem kern4_quarter.calls (n s : Nat) (u : Int) (gp gs gd : Nat) (P : Option Addr) (cp cS cD : Nat) (pw src d r : List Int) (w0 w : World) (hB : Below w0.heap.size w0 w)
    (hX : w.heap[gp]? = some (.cells #[.slice P pw.length cp, .int .u64 u, .slice (some ⟨gs, 0, none⟩) src.length cS, .slice (some ⟨gd, 0, none⟩) src.length cD] 105 (0, 0)))
    (hP : ∀ W, Kept w W (fun j => j = gp ∨ j = gd) → Kd.C (Kd.int .u64) W P pw.length pw)
    (hSr : Kd.R (Kd.int .u64) 23 w w0.heap.size (fun j => j = gs) (.slice (some ⟨gs, 0, none⟩) src.length cS) src) (hDr : Kd.R (Kd.int .u64) 23 w w0.heap.size (fun j => j = gd) (.slice (some ⟨gd, 0, none⟩) src.length cD) d)
    (hgp : w0.heap.size ≤ gp) (hne1 : gs ≠ gp) (hne2 : gd ≠ gp) (hne3 : gs ≠ gd) (hs : 0 < s) (hn : 4 ≤ n) (hN : src.length = n * s) (hN2 : src.length ≤ 1048576) (hpw : ∀ i, i < n / 4 → 3 * i * (src.length / n) < pw.length) (hpw2 : pw.length ≤ 1048576) (h : hk_qout pw src u n s (src.length / n) d (n / 4) = some r) :
    Calls Tryd.prog 75 #[.pointer (some ⟨gp, 0, none⟩), .int .i64 n, .int .i64 s] w fun e w' => e = .returned (.tuple #[]) ∧ Below w0.heap.size w0 w' ∧ Kept w w' (fun j => j = gp ∨ j = gd) ∧
      w'.heap[gp]? = some (.cells #[.slice P pw.length cp, .int .u64 u, .slice (some ⟨gd, 0, none⟩) src.length cD, .slice (some ⟨gs, 0, none⟩) src.length cS] 105 (0, 0)) ∧
      Kd.R (Kd.int .u64) 23 w' w0.heap.size (fun j => j = gd) (.slice (some ⟨gd, 0, none⟩) src.length cD) r := by
  have HB := Aside0.mk hB
  have HX := Aside0.mk hX
  have HP := Aside0.mk hP
  have HS := Aside0.mk hSr
  have HD := Aside0.mk hDr
  have HN := Aside0.mk hN
  have HN2 := Aside0.mk hN2
  have HH := Aside0.mk h
  have HNE := Aside0.mk (And.intro hgp (And.intro hne1 (And.intro hne2 hne3)))
  have HSN := Aside0.mk (And.intro hs hn)
  have HPW := Aside0.mk hpw
  have HPW2 := Aside0.mk hpw2
  clear hB hX hP hSr hDr hgp hne1 hne2 hne3 hs hn hN hN2 hpw hpw2 h
  go_enter Tryd.func75, Tryd.ntmps75
  go_wp2
  have hn1 : n ≤ src.length := by rw [HN.out]; exact Nat.le_mul_of_pos_right _ HSN.out.1
  have hn2 : n ≤ 1048576 := Nat.le_trans hn1 HN2.out
  have Hn2 := Aside0.mk hn2
  have hst : wrap64 ((src.length : Int) / (n : Int)) = ((src.length / n : Nat) : Int) := by rw [← Int.natCast_ediv, ← i64_w]; exact hk_wn (Nat.le_trans (Nat.div_le_self _ _) HN2.out)
  obtain ⟨st, hsteq⟩ : ∃ st, st = src.length / n := ⟨_, rfl⟩
  rw [← hsteq] at hst HH
  have HST := Aside0.mk hst
  clear hst
  have Hst := Aside0.mk hsteq
  have hn0 : ((n : Int) == 0) = false := by have := HSN.out.2; rw [beq_eq_false_iff_ne]; omega
  have hn0b : (n = 0) = False := eq_false (by have := HSN.out.2; omega)
  have hn0c : (n == 0) = false := by have := HSN.out.2; rw [beq_eq_false_iff_ne]; omega
  clear hn1 hn2 hsteq
  have hb0 : Below w.heap.size w (((w.alloc (.cells #[.pointer (some ⟨gp, 0, none⟩)] 103)).alloc (.cells #[.int .i64 (n : Int)] 3)).alloc (.cells #[.int .i64 (s : Int)] 3)) := (((Below.refl w.heap.size w).alloc (Nat.le_refl _) _).alloc (by simp) _).alloc (by simp; omega) _
  have h3 : (((w.alloc (.cells #[.pointer (some ⟨gp, 0, none⟩)] 103)).alloc (.cells #[.int .i64 (n : Int)] 3)).alloc (.cells #[.int .i64 (s : Int)] 3)).heap[w.heap.size]? = some (.cells #[.pointer (some ⟨gp, 0, none⟩)] 103 (0, 0)) := by
    rw [Below.heap_alloc _ _ _ (by simp; omega), Below.heap_alloc _ _ _ (by simp)]; exact Array.getElem?_push_size
  have h4 : (((w.alloc (.cells #[.pointer (some ⟨gp, 0, none⟩)] 103)).alloc (.cells #[.int .i64 (n : Int)] 3)).alloc (.cells #[.int .i64 (s : Int)] 3)).heap[w.heap.size + 1]? = some (.cells #[.int .i64 (n : Int)] 3 (0, 0)) := by
    rw [Below.heap_alloc _ _ _ (by simp), show w.heap.size + 1 = (w.alloc (.cells #[.pointer (some ⟨gp, 0, none⟩)] 103)).heap.size by simp]; exact Array.getElem?_push_size
  have h5 : (((w.alloc (.cells #[.pointer (some ⟨gp, 0, none⟩)] 103)).alloc (.cells #[.int .i64 (n : Int)] 3)).alloc (.cells #[.int .i64 (s : Int)] 3)).heap[w.heap.size + 1 + 1]? = some (.cells #[.int .i64 (s : Int)] 3 (0, 0)) := by
    rw [show w.heap.size + 1 + 1 = ((w.alloc (.cells #[.pointer (some ⟨gp, 0, none⟩)] 103)).alloc (.cells #[.int .i64 (n : Int)] 3)).heap.size by simp]; exact Array.getElem?_push_size
  have hgd : gd < w.heap.size := Kd.R_lt HD.out gd rfl
  have hgd0 : w0.heap.size ≤ gd := by
    obtain ⟨g', c', e', hb', _⟩ := Kd.R_form HD.out (by
      have := Kd.R_reads' HD.out
      rw [← this.1, HN.out]; exact Nat.mul_pos (by have := HSN.out.2; omega) HSN.out.1)
    injection e' with e1; injection e1 with e1; injection e1 with e1; rw [e1]; exact hb'
  have Q0 : hk_QE w0 w gp gs gd P pw.length cp cS cD u src [(w.heap.size, .cells #[.pointer (some ⟨gp, 0, none⟩)] 103 (0, 0)), (w.heap.size + 1, .cells #[.int .i64 (n : Int)] 3 (0, 0)), (w.heap.size + 1 + 1, .cells #[.int .i64 (s : Int)] 3 (0, 0))] (((w.alloc (.cells #[.pointer (some ⟨gp, 0, none⟩)] 103)).alloc (.cells #[.int .i64 (n : Int)] 3)).alloc (.cells #[.int .i64 (s : Int)] 3)) :=
    ⟨HB.out.trans (hb0.mono HB.out.size), Kept.of_below hb0 _, (hb0.block _ (blk_lt HX.out)).trans HX.out, Kd.R_below HS.out hb0, fun p hp => by
      simp only [List.mem_cons, List.not_mem_nil, or_false] at hp
      rcases hp with rfl | rfl | rfl
      · exact ⟨h3, by show _ ≠ _; omega⟩
      · exact ⟨h4, by show _ ≠ _; omega⟩
      · exact ⟨h5, by show _ ≠ _; omega⟩, hgd0, Ne.symm HNE.out.2.2.1, HNE.out.2.2.2⟩
  have D0 := Kd.R_below HD.out hb0
  have hbz : w.heap.size + 1 + 1 < (((w.alloc (.cells #[.pointer (some ⟨gp, 0, none⟩)] 103)).alloc (.cells #[.int .i64 (n : Int)] 3)).alloc (.cells #[.int .i64 (s : Int)] 3)).heap.size := by simp
  clear h3 h4 h5 hb0 hgd hgd0
  generalize (((w.alloc (.cells #[.pointer (some ⟨gp, 0, none⟩)] 103)).alloc (.cells #[.int .i64 (n : Int)] 3)).alloc (.cells #[.int .i64 (s : Int)] 3)) = W3 at Q0 D0 hbz ⊢
  obtain ⟨b4, hb4⟩ : ∃ b, b = w.heap.size + 1 := ⟨_, rfl⟩
  obtain ⟨b5, hb5⟩ : ∃ b, b = w.heap.size + 1 + 1 := ⟨_, rfl⟩
  obtain ⟨b3, hb3⟩ : ∃ b, b = w.heap.size := ⟨_, rfl⟩
  rw [← hb5, ← hb4, ← hb3] at Q0 ⊢
  rw [← hb5] at hbz
  have HGB := Aside0.mk (show gp ≠ b3 by have := blk_lt HX.out; omega)
  clear hb3 hb4 hb5 hbz
  have Q0 := Aside0.mk Q0
  have D0 := Aside0.mk D0
  have c3 := Q0.out.cell (List.Mem.head _) 0 _ rfl
  have c4 := Q0.out.cell (List.Mem.tail _ (List.Mem.head _)) 0 _ rfl
  have cX := hk_blk_cell Q0.out.hX 2 _ rfl
  go_quiet (skip)
  clear c3 cX
  rw [HST.out]
  have hn4 : wrap64 ((n / 4 : Nat) : Int) = ((n / 4 : Nat) : Int) := by have := Hn2.out; unfold wrap64; omega
  have hn4' : (n : Int) / 4 = ((n / 4 : Nat) : Int) := rfl
  obtain ⟨n4, hn4eq⟩ : ∃ n4, n4 = n / 4 := ⟨_, rfl⟩
  rw [← hn4eq] at hn4 hn4' HH
  have Hn4 := Aside0.mk hn4eq
  clear hn4eq
  have HN4 := Aside0.mk hn4
  clear hn4
  go_wp2_with fail
  rw [HN4.out]
  clear hn4'
  have Q1 := Aside0.mk (Q0.out.drewN nq)
  have D1 := Aside0.mk (Kd.R_drewN D0.out nq)
  clear c4
  generalize W3.drewN nq = W4 at Q1 D1 ⊢
  have QI := Aside0.mk Q1.out
  go_loopg [24] n4 (fun kq v24 w' => ∃ (i : Nat) (x : List Int), v24 = .int .i64 (i : Int) ∧ Aside0 (kq + i = n4) ∧ Aside0 (hk_qout pw src u n s st d i = some x) ∧ Aside0 (hk_QE w0 w gp gs gd P pw.length cp cS cD u src [(b3, .cells #[.pointer (some ⟨gp, 0, none⟩)] 103 (0, 0)), (b4, .cells #[.int .i64 (n : Int)] 3 (0, 0)), (b5, .cells #[.int .i64 (s : Int)] 3 (0, 0))] w') ∧ Aside0 (Kd.R (Kd.int .u64) 23 w' w0.heap.size (fun j => j = gd) (.slice (some ⟨gd, 0, none⟩) src.length cD) x))
  case atStart => exact ⟨0, d, rfl, ⟨by omega⟩, ⟨rfl⟩, Q1, D1⟩
  case round =>
    obtain ⟨i, x, rfl, HI, Hx, HQ, HDx⟩ := hrel
    clear Q0 D0 Q1 D1 QI
    cases gk with
    | zero =>
      have hi := HI.out
      have c1 : decide ((i : Int) < (n4 : Int)) = false := decide_eq_false (by omega)
      have c2 : (i < n4) = False := eq_false (by omega)
      have e : i = n4 := by omega
      rw [e] at Hx
      have er : x = r := by have h1 := Hx.out; rw [HH.out] at h1; injection h1 with h1; exact h1.symm
      rw [er] at HDx
      clear hi e er
      go_wp2_with fail
      have cb3 := HQ.out.cell (List.Mem.head _) 0 _ rfl
      have cX2 := hk_blk_cell HQ.out.hX 2 _ rfl
      have cX3 := hk_blk_cell HQ.out.hX 3 _ rfl
      have fX2 := hk_blk_frozen HQ.out.hX 2
      have fX3 := hk_blk_frozen HQ.out.hX 3
      have hgb := HGB.out
      have hgb' := Ne.symm hgb
      go_region
      all_goals
        obtain ⟨q1, q2, q3, q4⟩ := HQ.out.swap HNE.out.1 HDx.out
        go_end0
        exact ⟨rfl, q1, q2, q3, q4⟩
    | succ k1 =>
      have hi := HI.out
      have c1 : decide ((i : Int) < (n4 : Int)) = true := decide_eq_true (by omega)
      have c2 : (i < n4) = True := eq_true (by omega)
      have HI4 := Aside0.mk (show i < n4 by omega)
      clear hi
      go_wp2_with fail
      have hd7 := Kd.R_lt HDx.out gd rfl
      have H7 := Aside0.mk (HQ.out.alloc hd7 #[.int .i64 (i : Int)] 3)
      have D7 := Aside0.mk (Kd.R_alloc HDx.out (.cells #[.int .i64 (i : Int)] 3))
      obtain ⟨b7, hb7⟩ : ∃ b, b = wr.heap.size := ⟨_, rfl⟩
      rw [← hb7] at H7 ⊢
      clear hd7 hb7 c1 c2
      generalize wr.alloc (.cells #[.int .i64 (i : Int)] 3) = W5 at H7 D7 ⊢
      have hq3 := HPW.out i (by rw [← Hn4.out]; exact HI4.out)
      rw [← Hst.out] at hq3
      have hb3 : 3 * i * st ≤ 1048576 := Nat.le_trans (Nat.le_of_lt hq3) HPW2.out
      have hm1 : i * st ≤ 3 * i * st := by rw [Nat.mul_assoc]; exact Nat.le_mul_of_pos_left _ (by omega)
      have hm2 : 2 * i * st ≤ 3 * i * st := Nat.mul_le_mul_right _ (by omega)
      have hi5 : i ≤ 262144 := by have := HI4.out; have := Hn4.out; have := Hn2.out; omega
      have E1 : IntKind.i64.wrap ((i : Int) * (st : Int)) = ((i * st : Nat) : Int) := by rw [← Int.natCast_mul]; exact hk_wn (by omega)
      have E2a : IntKind.i64.wrap (2 * (i : Int)) = ((2 * i : Nat) : Int) := hk_wn (z := 2 * i) (by omega)
      have E3a : IntKind.i64.wrap (3 * (i : Int)) = ((3 * i : Nat) : Int) := hk_wn (z := 3 * i) (by omega)
      have E2 : IntKind.i64.wrap (((2 * i : Nat) : Int) * (st : Int)) = ((2 * i * st : Nat) : Int) := by rw [← Int.natCast_mul]; exact hk_wn (by omega)
      have E3 : IntKind.i64.wrap (((3 * i : Nat) : Int) * (st : Int)) = ((3 * i * st : Nat) : Int) := by rw [← Int.natCast_mul]; exact hk_wn (by omega)
      obtain ⟨m1, hme1⟩ : ∃ m, m = i * st := ⟨_, rfl⟩
      obtain ⟨m2, hme2⟩ : ∃ m, m = 2 * i * st := ⟨_, rfl⟩
      obtain ⟨m3, hme3⟩ : ∃ m, m = 3 * i * st := ⟨_, rfl⟩
      obtain ⟨i2, hie2⟩ : ∃ m, m = 2 * i := ⟨_, rfl⟩
      obtain ⟨i3, hie3⟩ : ∃ m, m = 3 * i := ⟨_, rfl⟩
      rw [← hme1] at E1 hm1
      rw [← hme2] at E2 hm2
      rw [← hme3] at E3 hm1 hm2 hb3 hq3
      rw [← hie2] at E2 E2a
      rw [← hie3] at E3 E3a
      have hCP := HP.out _ H7.out.hK
      obtain ⟨ad, ea, hx1⟩ := Kd.at_int hCP (m1 : Int) (by omega) (by omega)
      obtain ⟨ad2, ea2, hx2⟩ := Kd.at_int hCP (m2 : Int) (by omega) (by omega)
      obtain ⟨ad3, ea3, hx3⟩ := Kd.at_int hCP (m3 : Int) (by omega) (by omega)
      have ead2 : ad2 = ad := by rw [ea] at ea2; injection ea2 with h; exact h.symm
      have ead3 : ad3 = ad := by rw [ea] at ea3; injection ea3 with h; exact h.symm
      subst ead2 ead3
      rw [Int.toNat_natCast] at hx1 hx2 hx3
      have p1 : ((m1 : Int) < (pw.length : Int)) = True := eq_true (by omega)
      have p2 : ((m2 : Int) < (pw.length : Int)) = True := eq_true (by omega)
      have p3 : ((m3 : Int) < (pw.length : Int)) = True := eq_true (by omega)
      have p1' : (m1 < pw.length) = True := eq_true (by omega)
      have p2' : (m2 < pw.length) = True := eq_true (by omega)
      have p3' : (m3 < pw.length) = True := eq_true (by omega)
      have cb3 := H7.out.cell (List.Mem.tail _ (List.Mem.head _)) 0 _ rfl
      have cb7 := H7.out.cell (List.Mem.head _) 0 _ rfl
      have cX0 := hk_blk_cell H7.out.hX 0 _ rfl
      rw [ea] at cX0
      have HM := Aside0.mk (And.intro hme1 (And.intro hme2 (And.intro hme3 (And.intro hie2 hie3))))
      have EA := Aside0.mk ea
      clear hq3 hb3 hm1 hm2 hi5 hme1 hme2 hme3 hie2 hie3 hCP ea ea2 ea3
      go_quiet (skip)
      have H8 := Aside0.mk (H7.out.drewN nq)
      have D8 := Aside0.mk (Kd.R_drewN D7.out nq)
      clear cb3 cb7 cX0 hx1 hx2 hx3 E1 E2 E3 E2a E3a p1 p2 p3 p1' p2' p3' H7 D7
      generalize W5.drewN nq = W6 at H8 D8 ⊢
      have cb5 := H8.out.cell (List.Mem.tail _ (List.Mem.tail _ (List.Mem.tail _ (List.Mem.head _)))) 0 _ rfl
      have hi := HI.out
      have hdn : ∃ y, hk_qout pw src u n s st d (i + 1) = some y := hk_qout_down (m := k1) (by rw [show i + 1 + k1 = n4 by omega]; exact HH.out)
      obtain ⟨y, hy⟩ := hdn
      have hy2 := hy
      unfold hk_qout at hy2
      rw [Hx.out, Option.bind_some] at hy2
      have HY := Aside0.mk hy
      have HY2 := Aside0.mk hy2
      clear hi hy hy2
      go_wp2_with fail
      go_loopg [57] s (fun kq v57 w' => ∃ (q : Nat) (z : List Int), v57 = .int .i64 (q : Int) ∧ Aside0 (kq + q = s) ∧ Aside0 (hk_qin pw src u n s st i x q = some z) ∧ Aside0 (hk_QE w0 w gp gs gd P pw.length cp cS cD u src [(b7, .cells #[.int .i64 (i : Int)] 3 (0, 0)), (b3, .cells #[.pointer (some ⟨gp, 0, none⟩)] 103 (0, 0)), (b4, .cells #[.int .i64 (n : Int)] 3 (0, 0)), (b5, .cells #[.int .i64 (s : Int)] 3 (0, 0))] w') ∧ Aside0 (Kd.R (Kd.int .u64) 23 w' w0.heap.size (fun j => j = gd) (.slice (some ⟨gd, 0, none⟩) src.length cD) z))
      case atStart => exact ⟨0, x, rfl, ⟨by omega⟩, ⟨rfl⟩, H8, D8⟩
      case round =>
        obtain ⟨q, z, rfl, HJ, Hz, HQq, HDz⟩ := hrel
        clear H8 D8 cb5
        cases gk with
        | zero =>
          have hj := HJ.out
          have c1 : decide ((q : Int) < (s : Int)) = false := decide_eq_false (by omega)
          have c2 : (q < s) = False := eq_false (by omega)
          have e : q = s := by omega
          rw [e] at Hz
          have er : z = y := by have h1 := Hz.out; rw [HY2.out] at h1; injection h1 with h1; exact h1.symm
          rw [er] at HDz
          clear hj e er
          go_wp2_with fail
          go_roundg k1
          case measure => omega
          case rel => exact ⟨i + 1, y, (by rw [show wrap64 ((i : Int) + 1) = ((i + 1 : Nat) : Int) by have := HI4.out; have := Hn4.out; have := Hn2.out; unfold wrap64; omega]), ⟨by have := HI.out; omega⟩, HY, ⟨HQq.out.sub (fun p hp => List.mem_cons_of_mem _ hp)⟩, HDz⟩
        | succ k2 =>
          have hj := HJ.out
          have hqs : q < s := by omega
          have c1 : decide ((q : Int) < (s : Int)) = true := decide_eq_true (by omega)
          have c2 : (q < s) = True := eq_true hqs
          have hdz : ∃ z', hk_qin pw src u n s st i x (q + 1) = some z' := hk_qin_down (m := k2) (by rw [show q + 1 + k2 = s by omega]; exact HY2.out)
          obtain ⟨z', hz'⟩ := hdz
          have hz2 := hz'
          unfold hk_qin at hz2
          rw [Hz.out, Option.bind_some] at hz2
          unfold hk_qstep at hz2
          rw [← HM.out.1, ← HM.out.2.1, ← HM.out.2.2.1] at hz2
          obtain ⟨⟨y0, y1, y2, y3⟩, hcr, hz2⟩ := Option.bind_eq_some_iff.1 hz2
          obtain ⟨z1, hg1, hz2⟩ := Option.bind_eq_some_iff.1 hz2
          obtain ⟨z2, hg2, hz2⟩ := Option.bind_eq_some_iff.1 hz2
          obtain ⟨z3, hg3, hz2⟩ := Option.bind_eq_some_iff.1 hz2
          have hz3 := Option.some.inj hz2
          have HZ' := Aside0.mk hz'
          obtain ⟨x0, ex0⟩ : ∃ x, x = q + s * (i + 0 * (n / 4)) := ⟨_, rfl⟩
          obtain ⟨x1, ex1⟩ : ∃ x, x = q + s * (i + 1 * (n / 4)) := ⟨_, rfl⟩
          obtain ⟨x2, ex2⟩ : ∃ x, x = q + s * (i + 2 * (n / 4)) := ⟨_, rfl⟩
          obtain ⟨x3, ex3⟩ : ∃ x, x = q + s * (i + 3 * (n / 4)) := ⟨_, rfl⟩
          rw [← ex0, ← ex1, ← ex2, ← ex3] at hcr
          have HCR := Aside0.mk hcr
          have HG1 := Aside0.mk hg1
          have HG2 := Aside0.mk hg2
          have HG3 := Aside0.mk hg3
          have HZ3 := Aside0.mk hz3
          have hI4 : i < n / 4 := by rw [← Hn4.out]; exact HI4.out
          have X0 := Aside0.mk (show x0 < src.length by rw [ex0]; exact hk_ix_lt (j := 0) HN.out hI4 hqs (by omega))
          have X1 := Aside0.mk (show x1 < src.length by rw [ex1]; exact hk_ix_lt (j := 1) HN.out hI4 hqs (by omega))
          have X2 := Aside0.mk (show x2 < src.length by rw [ex2]; exact hk_ix_lt (j := 2) HN.out hI4 hqs (by omega))
          have X3 := Aside0.mk (show x3 < src.length by rw [ex3]; exact hk_ix_lt (j := 3) HN.out hI4 hqs (by omega))
          have T0 := Aside0.mk (hk_to_lt (j := 0) HN.out hI4 hqs (by omega))
          have T1 := Aside0.mk (hk_to_lt (j := 1) HN.out hI4 hqs (by omega))
          have T2 := Aside0.mk (hk_to_lt (j := 2) HN.out hI4 hqs (by omega))
          have T3 := Aside0.mk (hk_to_lt (j := 3) HN.out hI4 hqs (by omega))
          have w0x := Aside0.mk (show IntKind.i64.wrap ((q : Int) + IntKind.i64.wrap ((s : Int) * IntKind.i64.wrap ((i : Int) + IntKind.i64.wrap (0 * IntKind.i64.wrap ((n : Int).tdiv 4))))) = (x0 : Int) from hk_quarter1_ix (j := 0) (X := x0) ex0 (Nat.le_trans (Nat.le_of_lt X0.out) HN2.out) Hn2.out HSN.out.1)
          have w1x := Aside0.mk (show IntKind.i64.wrap ((q : Int) + IntKind.i64.wrap ((s : Int) * IntKind.i64.wrap ((i : Int) + IntKind.i64.wrap (1 * IntKind.i64.wrap ((n : Int).tdiv 4))))) = (x1 : Int) from hk_quarter1_ix (j := 1) (X := x1) ex1 (Nat.le_trans (Nat.le_of_lt X1.out) HN2.out) Hn2.out HSN.out.1)
          have w2x := Aside0.mk (show IntKind.i64.wrap ((q : Int) + IntKind.i64.wrap ((s : Int) * IntKind.i64.wrap ((i : Int) + IntKind.i64.wrap (2 * IntKind.i64.wrap ((n : Int).tdiv 4))))) = (x2 : Int) from hk_quarter1_ix (j := 2) (X := x2) ex2 (Nat.le_trans (Nat.le_of_lt X2.out) HN2.out) Hn2.out HSN.out.1)
          have w3x := Aside0.mk (show IntKind.i64.wrap ((q : Int) + IntKind.i64.wrap ((s : Int) * IntKind.i64.wrap ((i : Int) + IntKind.i64.wrap (3 * IntKind.i64.wrap ((n : Int).tdiv 4))))) = (x3 : Int) from hk_quarter1_ix (j := 3) (X := x3) ex3 (Nat.le_trans (Nat.le_of_lt X3.out) HN2.out) Hn2.out HSN.out.1)
          clear hj hqs hz' hz2 hz3 hcr hg1 hg2 hg3 hI4 ex0 ex1 ex2 ex3
          go_wp2_with fail
          have hd9 := Kd.R_lt HDz.out gd rfl
          have H9 := Aside0.mk (HQq.out.alloc hd9 #[.int .i64 (q : Int)] 3)
          have D9 := Aside0.mk (Kd.R_alloc HDz.out (.cells #[.int .i64 (q : Int)] 3))
          obtain ⟨b11, hb11⟩ : ∃ b, b = wr.heap.size := ⟨_, rfl⟩
          rw [← hb11] at H9 ⊢
          clear hd9 hb11 c1 c2
          generalize wr.alloc (.cells #[.int .i64 (q : Int)] 3) = V0 at H9 D9 ⊢
          have HV := Aside0.mk (Below.refl V0.heap.size V0)
          have cb3 := H9.out.cell (List.Mem.tail _ (List.Mem.tail _ (List.Mem.head _))) 0 _ rfl
          have cX1 := hk_blk_cell H9.out.hX 1 _ rfl
          have SV : ∀ V, Below V0.heap.size V0 V → V.cell? ⟨b3, 0, none⟩ = some (.pointer (some ⟨gp, 0, none⟩)) ∧ V.cell? ⟨gp, 1, none⟩ = some (.int .u64 u) := fun V hV => ⟨(H9.out.below hV).cell (List.Mem.tail _ (List.Mem.tail _ (List.Mem.head _))) 0 _ rfl, hk_blk_cell (H9.out.below hV).hX 1 _ rfl⟩
          have SV := Aside0.mk SV
          go_cut [13] from 58 to 126 (fun v13 wx => ∃ g : Nat, v13 = .pointer (some ⟨g, 0, none⟩) ∧ Aside0 (Below V0.heap.size V0 wx) ∧ Aside0 (wx.heap[g]? = some (.cells #[.int .u64 y0, .int .u64 y1, .int .u64 y2, .int .u64 y3] 118 (0, 0))) ∧ Aside0 (V0.heap.size ≤ g))
          case first =>
            go_region_held3 (fun w' => w'.cell? ⟨b3, 0, none⟩ = some (.pointer (some ⟨gp, 0, none⟩)) ∧ w'.cell? ⟨gp, 1, none⟩ = some (.int .u64 u)) (first | ((refine SV.out _ ?_; (with_reducible repeat (first | exact HV.out | apply below_alloc | apply below_drew | refine below_set ?_ HGe.out | refine below_set ?_ HV.out.size)); done)) | go_keep) (first | (go_at_call 82; (first | (with_reducible refine (hk_quarter1.of' w0 w V0 _ gp gs gd b3 b4 b5 b7 b11 P pw.length cp cS cD u src n s i q 0 x0 H9.out ?hv w0x.out X0.out).mono ?_) | (with_reducible refine (hk_quarter1.of' w0 w V0 _ gp gs gd b3 b4 b5 b7 b11 P pw.length cp cS cD u src n s i q 1 x1 H9.out ?hv w1x.out X1.out).mono ?_) | (with_reducible refine (hk_quarter1.of' w0 w V0 _ gp gs gd b3 b4 b5 b7 b11 P pw.length cp cS cD u src n s i q 2 x2 H9.out ?hv w2x.out X2.out).mono ?_) | (with_reducible refine (hk_quarter1.of' w0 w V0 _ gp gs gd b3 b4 b5 b7 b11 P pw.length cp cS cD u src n s i q 3 x3 H9.out ?hv w3x.out X3.out).mono ?_)); (case hv => (repeat (first | exact HV.out | apply below_alloc | apply below_drew))); rintro e v1 ⟨rfl, hb, hk⟩; (first | (have n3_ := Aside0.mk (hk _ _ HGk.out); clear HGk; have HGk := n3_; clear n3_) | (have HGk := Aside0.mk (hk _ _ (hk_new_blk _ _ _)); have HGe := Aside0.mk HV.out.size) | skip); have n0_ := Aside0.mk hb; clear HV hb hk; have HV := n0_; clear n0_) | (go_at_call 83; (with_reducible refine (kern4_Cross.of _ _ _ _ u y0 y1 y2 y3 V0 _ HCR.out ?hv).mono ?_); (case hv => (repeat (first | exact HV.out | apply below_alloc | apply below_drew))); rintro e v1 ⟨rfl, hb, hk⟩; (first | (have n3_ := Aside0.mk (hk _ _ HGk.out); clear HGk; have HGk := n3_; clear n3_) | (have HGk := Aside0.mk (hk _ _ (hk_new_blk _ _ _)); have HGe := Aside0.mk HV.out.size) | skip); (try (have hc0 := hk_blk_cell HGk.out 0 _ rfl; have hc1 := hk_blk_cell HGk.out 1 _ rfl; have hc2 := hk_blk_cell HGk.out 2 _ rfl; have hc3 := hk_blk_cell HGk.out 3 _ rfl; have hf0 := hk_blk_frozen HGk.out 0; have hf1 := hk_blk_frozen HGk.out 1; have hf2 := hk_blk_frozen HGk.out 2; have hf3 := hk_blk_frozen HGk.out 3)); have n0_ := Aside0.mk hb; clear HV hb hk; have HV := n0_; clear n0_))
            all_goals (go_wp2_with fail)
            all_goals go_meet
            all_goals
              case rel =>
                refine ⟨_, rfl, ⟨?_⟩, ⟨?_⟩, ⟨?_⟩⟩
                · (with_reducible repeat (first | exact HV.out | apply below_alloc | apply below_drew | refine below_set ?_ HGe.out | refine below_set ?_ HV.out.size))
                · first | (with_reducible exact hk_new_blk _ _ _) | (with_reducible exact hk_put4 _ _ _ _ HGk.out) | (with_reducible exact hk_put4 _ _ _ _ (hk_new_blk _ _ _))
                · first | (with_reducible exact HGe.out) | (with_reducible exact HV.out.size)
          case rest =>
            obtain ⟨g, rfl, HBc, HGc, HGe⟩ := hcut
            have hgd := Kd.R_lt D9.out gd rfl
            have hggd : g ≠ gd := by have := HGe.out; omega
            have H10 := Aside0.mk ((H9.out.below HBc.out).add HGc.out hggd)
            have D10 := Aside0.mk (Kd.R_below D9.out HBc.out)
            clear hgd hggd H9 D9 HV SV cX1 HBc HGc cb3
            have cq := H10.out.cell (List.Mem.tail _ (List.Mem.head _)) 0 _ rfl
            have ci := H10.out.cell (List.Mem.tail _ (List.Mem.tail _ (List.Mem.head _))) 0 _ rfl
            have cs := H10.out.cell (List.Mem.tail _ (List.Mem.tail _ (List.Mem.tail _ (List.Mem.tail _ (List.Mem.tail _ (List.Mem.head _)))))) 0 _ rfl
            go_wp2_with fail
            have h4s : s * 4 ≤ 1048576 := by have h5 : 4 * s ≤ n * s := Nat.mul_le_mul_right _ HSN.out.2; have := HN.out; have := HN2.out; omega
            obtain ⟨ta, hto⟩ : ∃ x, x = q + s * 4 * i := ⟨_, rfl⟩
            obtain ⟨t1, ht1⟩ : ∃ x, x = ta + s := ⟨_, rfl⟩
            obtain ⟨t2, ht2⟩ : ∃ x, x = ta + 2 * s := ⟨_, rfl⟩
            obtain ⟨t3, ht3⟩ : ∃ x, x = ta + 3 * s := ⟨_, rfl⟩
            obtain ⟨s2, hs2⟩ : ∃ x, x = 2 * s := ⟨_, rfl⟩
            obtain ⟨s3, hs3⟩ : ∃ x, x = 3 * s := ⟨_, rfl⟩
            have k0 : ta < src.length := by rw [hto]; have := T0.out; omega
            have k1' : t1 < src.length := by rw [ht1, hto]; have := T1.out; omega
            have k2' : t2 < src.length := by rw [ht2, hto]; exact T2.out
            have k3' : t3 < src.length := by rw [ht3, hto]; exact T3.out
            have hL := HN2.out
            rw [hk_to_ix hto (by omega) h4s]
            have hz4 := HZ3.out
            rw [← hto, ← ht1, ← ht2, ← ht3] at hz4
            have E1 := Aside0.mk (show IntKind.i64.wrap ((ta : Int) + (s : Int)) = (t1 : Int) by rw [← Int.natCast_add, ← ht1]; exact hk_wn (by omega))
            have E2a := Aside0.mk (show IntKind.i64.wrap (2 * (s : Int)) = (s2 : Int) by rw [hs2]; exact hk_wn (z := 2 * s) (by omega))
            have E3a := Aside0.mk (show IntKind.i64.wrap (3 * (s : Int)) = (s3 : Int) by rw [hs3]; exact hk_wn (z := 3 * s) (by omega))
            have E2 := Aside0.mk (show IntKind.i64.wrap ((ta : Int) + (s2 : Int)) = (t2 : Int) by rw [← Int.natCast_add, hs2, ← ht2]; exact hk_wn (by omega))
            have E3 := Aside0.mk (show IntKind.i64.wrap ((ta : Int) + (s3 : Int)) = (t3 : Int) by rw [← Int.natCast_add, hs3, ← ht3]; exact hk_wn (by omega))
            have HZ4 := Aside0.mk hz4
            have K0 := Aside0.mk k0
            have K1 := Aside0.mk k1'
            have K2 := Aside0.mk k2'
            have K3 := Aside0.mk k3'
            clear hto ht1 ht2 ht3 hs2 hs3 k0 k1' k2' k3' hL hz4 h4s cq ci cs
            have SQ := Aside0.mk (show ∀ V, hk_QE w0 w gp gs gd P pw.length cp cS cD u src [(g, .cells #[.int .u64 y0, .int .u64 y1, .int .u64 y2, .int .u64 y3] 118 (0, 0)), (b11, .cells #[.int .i64 (q : Int)] 3 (0, 0)), (b7, .cells #[.int .i64 (i : Int)] 3 (0, 0)), (b3, .cells #[.pointer (some ⟨gp, 0, none⟩)] 103 (0, 0)), (b4, .cells #[.int .i64 (n : Int)] 3 (0, 0)), (b5, .cells #[.int .i64 (s : Int)] 3 (0, 0))] V → V.cell? ⟨b3, 0, none⟩ = some (.pointer (some ⟨gp, 0, none⟩)) ∧ V.cell? ⟨gp, 3, none⟩ = some (.slice (some ⟨gd, 0, none⟩) src.length cD) ∧ V.cell? ⟨g, 0, none⟩ = some (.int .u64 y0) ∧ V.cell? ⟨b5, 0, none⟩ = some (.int .i64 (s : Int)) from fun V hV => ⟨hV.cell (List.Mem.tail _ (List.Mem.tail _ (List.Mem.tail _ (List.Mem.head _)))) 0 _ rfl, hk_blk_cell hV.hX 3 _ rfl, hV.cell (List.Mem.head _) 0 _ rfl, hV.cell (List.Mem.tail _ (List.Mem.tail _ (List.Mem.tail _ (List.Mem.tail _ (List.Mem.tail _ (List.Mem.head _)))))) 0 _ rfl⟩)
            obtain ⟨sq0, sq1, sq2, sq3⟩ := SQ.out _ H10.out
            obtain ⟨hx, hf⟩ := Kd.R_celln 0 D10.out (ta : Int) (by omega) (by have := K0.out; omega)
            rw [Int.toNat_natCast] at hx hf
            have p0 : ((ta : Int) < (src.length : Int)) = True := eq_true (by have := K0.out; omega)
            have p1 : (ta < src.length) = True := eq_true K0.out
            have HC := H10
            have DC := D10
            go_region_held3 (fun V => V.cell? ⟨b3, 0, none⟩ = some (.pointer (some ⟨gp, 0, none⟩)) ∧ V.cell? ⟨gp, 3, none⟩ = some (.slice (some ⟨gd, 0, none⟩) src.length cD) ∧ V.cell? ⟨g, 0, none⟩ = some (.int .u64 y0) ∧ V.cell? ⟨b5, 0, none⟩ = some (.int .i64 (s : Int))) (first | ((refine SQ.out _ ?_; (with_reducible repeat (first | exact HC.out | apply hk_QE.drew | apply hk_QE.set)); done)) | go_keep) (fail)
            have H11 := Aside0.mk ((HC.out.set ta (.int .u64 y0)).drew)
            have D11 := Aside0.mk (Kd.R_drew (Kd.R_putn DC.out (ta : Int) y0))
            rw [Int.toNat_natCast] at D11
            clear HC DC SQ hx hf p0 p1 sq0 sq1 sq2 sq3 H10 D10
            generalize (wc.setCell ⟨gd, ta, none⟩ (.int .u64 y0)).drew = V1 at H11 D11 ⊢
            go_wp2_with fail
            have SQ := Aside0.mk (show ∀ V, hk_QE w0 w gp gs gd P pw.length cp cS cD u src [(g, .cells #[.int .u64 y0, .int .u64 y1, .int .u64 y2, .int .u64 y3] 118 (0, 0)), (b11, .cells #[.int .i64 (q : Int)] 3 (0, 0)), (b7, .cells #[.int .i64 (i : Int)] 3 (0, 0)), (b3, .cells #[.pointer (some ⟨gp, 0, none⟩)] 103 (0, 0)), (b4, .cells #[.int .i64 (n : Int)] 3 (0, 0)), (b5, .cells #[.int .i64 (s : Int)] 3 (0, 0))] V → V.cell? ⟨b3, 0, none⟩ = some (.pointer (some ⟨gp, 0, none⟩)) ∧ V.cell? ⟨gp, 3, none⟩ = some (.slice (some ⟨gd, 0, none⟩) src.length cD) ∧ V.cell? ⟨g, 1, none⟩ = some (.int .u64 y1) ∧ V.cell? ⟨b5, 0, none⟩ = some (.int .i64 (s : Int)) from fun V hV => ⟨hV.cell (List.Mem.tail _ (List.Mem.tail _ (List.Mem.tail _ (List.Mem.head _)))) 0 _ rfl, hk_blk_cell hV.hX 3 _ rfl, hV.cell (List.Mem.head _) 1 _ rfl, hV.cell (List.Mem.tail _ (List.Mem.tail _ (List.Mem.tail _ (List.Mem.tail _ (List.Mem.tail _ (List.Mem.head _)))))) 0 _ rfl⟩)
            obtain ⟨sq0, sq1, sq2, sq3⟩ := SQ.out _ H11.out
            obtain ⟨hx, hf⟩ := Kd.R_celln 0 D11.out (t1 : Int) (by omega) (by have := K1.out; omega)
            rw [Int.toNat_natCast] at hx hf
            have p0 : ((t1 : Int) < (src.length : Int)) = True := eq_true (by have := K1.out; omega)
            have p1 : (t1 < src.length) = True := eq_true K1.out
            have e1 := E1.out
            have HC := H11
            have DC := D11
            go_region_held3 (fun V => V.cell? ⟨b3, 0, none⟩ = some (.pointer (some ⟨gp, 0, none⟩)) ∧ V.cell? ⟨gp, 3, none⟩ = some (.slice (some ⟨gd, 0, none⟩) src.length cD) ∧ V.cell? ⟨g, 1, none⟩ = some (.int .u64 y1) ∧ V.cell? ⟨b5, 0, none⟩ = some (.int .i64 (s : Int))) (first | ((refine SQ.out _ ?_; (with_reducible repeat (first | exact HC.out | apply hk_QE.drew | apply hk_QE.set)); done)) | go_keep) (first | (go_at_call 64; (with_reducible refine (gold_Mul.calls y1 (rd pw (m1 : Int)) z1 _ HG1.out).mono ?_); rintro e v1 ⟨rfl, hb1⟩; have n0_ := Aside0.mk (hk_QE.below (by (with_reducible repeat (first | exact HC.out | apply hk_QE.drew))) hb1); have n1_ := Aside0.mk (Kd.R_below (by (with_reducible repeat (first | exact DC.out | apply Kd.R_drew))) hb1); clear HC DC hx hf hb1; have HC := n0_; have DC := n1_; clear n0_ n1_; obtain ⟨hx, hf⟩ := Kd.R_celln 0 DC.out (t1 : Int) (by omega) (by have := K1.out; omega); rw [Int.toNat_natCast] at hx hf))
            have H12 := Aside0.mk (HC.out.set t1 (.int .u64 z1))
            have D12 := Aside0.mk (Kd.R_putn DC.out (t1 : Int) z1)
            rw [Int.toNat_natCast] at D12
            clear HC DC SQ hx hf p0 p1 sq0 sq1 sq2 sq3 H11 D11
            clear e1
            generalize v1.setCell ⟨gd, t1, none⟩ (.int .u64 z1) = V2 at H12 D12 ⊢
            go_wp2_with fail
            have SQ := Aside0.mk (show ∀ V, hk_QE w0 w gp gs gd P pw.length cp cS cD u src [(g, .cells #[.int .u64 y0, .int .u64 y1, .int .u64 y2, .int .u64 y3] 118 (0, 0)), (b11, .cells #[.int .i64 (q : Int)] 3 (0, 0)), (b7, .cells #[.int .i64 (i : Int)] 3 (0, 0)), (b3, .cells #[.pointer (some ⟨gp, 0, none⟩)] 103 (0, 0)), (b4, .cells #[.int .i64 (n : Int)] 3 (0, 0)), (b5, .cells #[.int .i64 (s : Int)] 3 (0, 0))] V → V.cell? ⟨b3, 0, none⟩ = some (.pointer (some ⟨gp, 0, none⟩)) ∧ V.cell? ⟨gp, 3, none⟩ = some (.slice (some ⟨gd, 0, none⟩) src.length cD) ∧ V.cell? ⟨g, 2, none⟩ = some (.int .u64 y2) ∧ V.cell? ⟨b5, 0, none⟩ = some (.int .i64 (s : Int)) from fun V hV => ⟨hV.cell (List.Mem.tail _ (List.Mem.tail _ (List.Mem.tail _ (List.Mem.head _)))) 0 _ rfl, hk_blk_cell hV.hX 3 _ rfl, hV.cell (List.Mem.head _) 2 _ rfl, hV.cell (List.Mem.tail _ (List.Mem.tail _ (List.Mem.tail _ (List.Mem.tail _ (List.Mem.tail _ (List.Mem.head _)))))) 0 _ rfl⟩)
            obtain ⟨sq0, sq1, sq2, sq3⟩ := SQ.out _ H12.out
            obtain ⟨hx, hf⟩ := Kd.R_celln 0 D12.out (t2 : Int) (by omega) (by have := K2.out; omega)
            rw [Int.toNat_natCast] at hx hf
            have p0 : ((t2 : Int) < (src.length : Int)) = True := eq_true (by have := K2.out; omega)
            have p1 : (t2 < src.length) = True := eq_true K2.out
            have e1 := E2a.out
            have e2 := E2.out
            have HC := H12
            have DC := D12
            go_region_held3 (fun V => V.cell? ⟨b3, 0, none⟩ = some (.pointer (some ⟨gp, 0, none⟩)) ∧ V.cell? ⟨gp, 3, none⟩ = some (.slice (some ⟨gd, 0, none⟩) src.length cD) ∧ V.cell? ⟨g, 2, none⟩ = some (.int .u64 y2) ∧ V.cell? ⟨b5, 0, none⟩ = some (.int .i64 (s : Int))) (first | ((refine SQ.out _ ?_; (with_reducible repeat (first | exact HC.out | apply hk_QE.drew | apply hk_QE.set)); done)) | go_keep) (first | (go_at_call 64; (with_reducible refine (gold_Mul.calls y2 (rd pw (m2 : Int)) z2 _ HG2.out).mono ?_); rintro e v2 ⟨rfl, hb1⟩; have n0_ := Aside0.mk (hk_QE.below (by (with_reducible repeat (first | exact HC.out | apply hk_QE.drew))) hb1); have n1_ := Aside0.mk (Kd.R_below (by (with_reducible repeat (first | exact DC.out | apply Kd.R_drew))) hb1); clear HC DC hx hf hb1; have HC := n0_; have DC := n1_; clear n0_ n1_; obtain ⟨hx, hf⟩ := Kd.R_celln 0 DC.out (t2 : Int) (by omega) (by have := K2.out; omega); rw [Int.toNat_natCast] at hx hf))
            have H13 := Aside0.mk (HC.out.set t2 (.int .u64 z2))
            have D13 := Aside0.mk (Kd.R_putn DC.out (t2 : Int) z2)
            rw [Int.toNat_natCast] at D13
            clear HC DC SQ hx hf p0 p1 sq0 sq1 sq2 sq3 H12 D12
            clear e1 e2
            generalize v2.setCell ⟨gd, t2, none⟩ (.int .u64 z2) = V3 at H13 D13 ⊢
            go_wp2_with fail
            have SQ := Aside0.mk (show ∀ V, hk_QE w0 w gp gs gd P pw.length cp cS cD u src [(g, .cells #[.int .u64 y0, .int .u64 y1, .int .u64 y2, .int .u64 y3] 118 (0, 0)), (b11, .cells #[.int .i64 (q : Int)] 3 (0, 0)), (b7, .cells #[.int .i64 (i : Int)] 3 (0, 0)), (b3, .cells #[.pointer (some ⟨gp, 0, none⟩)] 103 (0, 0)), (b4, .cells #[.int .i64 (n : Int)] 3 (0, 0)), (b5, .cells #[.int .i64 (s : Int)] 3 (0, 0))] V → V.cell? ⟨b3, 0, none⟩ = some (.pointer (some ⟨gp, 0, none⟩)) ∧ V.cell? ⟨gp, 3, none⟩ = some (.slice (some ⟨gd, 0, none⟩) src.length cD) ∧ V.cell? ⟨g, 3, none⟩ = some (.int .u64 y3) ∧ V.cell? ⟨b5, 0, none⟩ = some (.int .i64 (s : Int)) from fun V hV => ⟨hV.cell (List.Mem.tail _ (List.Mem.tail _ (List.Mem.tail _ (List.Mem.head _)))) 0 _ rfl, hk_blk_cell hV.hX 3 _ rfl, hV.cell (List.Mem.head _) 3 _ rfl, hV.cell (List.Mem.tail _ (List.Mem.tail _ (List.Mem.tail _ (List.Mem.tail _ (List.Mem.tail _ (List.Mem.head _)))))) 0 _ rfl⟩)
            obtain ⟨sq0, sq1, sq2, sq3⟩ := SQ.out _ H13.out
            obtain ⟨hx, hf⟩ := Kd.R_celln 0 D13.out (t3 : Int) (by omega) (by have := K3.out; omega)
            rw [Int.toNat_natCast] at hx hf
            have p0 : ((t3 : Int) < (src.length : Int)) = True := eq_true (by have := K3.out; omega)
            have p1 : (t3 < src.length) = True := eq_true K3.out
            have e1 := E3a.out
            have e2 := E3.out
            have HC := H13
            have DC := D13
            go_region_held3 (fun V => V.cell? ⟨b3, 0, none⟩ = some (.pointer (some ⟨gp, 0, none⟩)) ∧ V.cell? ⟨gp, 3, none⟩ = some (.slice (some ⟨gd, 0, none⟩) src.length cD) ∧ V.cell? ⟨g, 3, none⟩ = some (.int .u64 y3) ∧ V.cell? ⟨b5, 0, none⟩ = some (.int .i64 (s : Int))) (first | ((refine SQ.out _ ?_; (with_reducible repeat (first | exact HC.out | apply hk_QE.drew | apply hk_QE.set)); done)) | go_keep) (first | (go_at_call 64; (with_reducible refine (gold_Mul.calls y3 (rd pw (m3 : Int)) z3 _ HG3.out).mono ?_); rintro e v3 ⟨rfl, hb1⟩; have n0_ := Aside0.mk (hk_QE.below (by (with_reducible repeat (first | exact HC.out | apply hk_QE.drew))) hb1); have n1_ := Aside0.mk (Kd.R_below (by (with_reducible repeat (first | exact DC.out | apply Kd.R_drew))) hb1); clear HC DC hx hf hb1; have HC := n0_; have DC := n1_; clear n0_ n1_; obtain ⟨hx, hf⟩ := Kd.R_celln 0 DC.out (t3 : Int) (by omega) (by have := K3.out; omega); rw [Int.toNat_natCast] at hx hf))
            have H14 := Aside0.mk (HC.out.set t3 (.int .u64 z3))
            have D14 := Aside0.mk (Kd.R_putn DC.out (t3 : Int) z3)
            rw [Int.toNat_natCast] at D14
            clear HC DC SQ hx hf p0 p1 sq0 sq1 sq2 sq3 H13 D13
            clear e1 e2
            generalize v3.setCell ⟨gd, t3, none⟩ (.int .u64 z3) = V4 at H14 D14 ⊢
            go_wp2_with fail
            rw [HZ4.out] at D14
            go_roundg k2
            case measure => omega
            case rel => exact ⟨q + 1, z', (by rw [show wrap64 ((q : Int) + 1) = ((q + 1 : Nat) : Int) by have := HJ.out; have h5 : s ≤ n * s := Nat.le_mul_of_pos_left _ (by have := HSN.out.2; omega); have := HN.out; have := HN2.out; unfold wrap64; omega]), ⟨by have := HJ.out; omega⟩, HZ', ⟨H14.out.sub (fun p hp => List.mem_cons_of_mem _ (List.mem_cons_of_mem _ hp))⟩, D14⟩

/-! ### kern4_pass_half: function 76 (by hand) -/
/-- Two words of a last pass. -/
def hk_hstep (src : List Int) (s q : Nat) (d : List Int) : Option (List Int) :=
  (gold_Add.f (rd src (q : Int)) (rd src ((q + s : Nat) : Int))).bind fun x => (gold_Sub.f (rd src (q : Int)) (rd src ((q + s : Nat) : Int))).bind fun y => some ((d.set q x).set (q + s) y)
def hk_hin (src : List Int) (s : Nat) (d : List Int) : Nat → Option (List Int)
  | 0 => some d
  | q + 1 => (hk_hin src s d q).bind (hk_hstep src s q)
theorem hk_hin_down {src : List Int} {s : Nat} {d : List Int} : ∀ {j m : Nat} {r : List Int}, hk_hin src s d (j + m) = some r → ∃ x, hk_hin src s d j = some x
  | j, 0, r, h => ⟨r, h⟩
  | j, m + 1, r, h => by
    unfold hk_hin at h
    obtain ⟨x, hx, _⟩ := Option.bind_eq_some_iff.1 h
    exact hk_hin_down (m := m) hx
set_option maxHeartbeats 40000000 in
set_option maxRecDepth 100000 in
theorem kern4_half.calls (s : Nat) (u : Int) (gp gs gd : Nat) (P : Option Addr) (cp cS cD np : Nat) (src d r : List Int) (w0 w : World) (hB : Below w0.heap.size w0 w)
    (hX : w.heap[gp]? = some (.cells #[.slice P np cp, .int .u64 u, .slice (some ⟨gs, 0, none⟩) src.length cS, .slice (some ⟨gd, 0, none⟩) src.length cD] 105 (0, 0)))
    (hSr : Kd.R (Kd.int .u64) 23 w w0.heap.size (fun j => j = gs) (.slice (some ⟨gs, 0, none⟩) src.length cS) src) (hDr : Kd.R (Kd.int .u64) 23 w w0.heap.size (fun j => j = gd) (.slice (some ⟨gd, 0, none⟩) src.length cD) d)
    (hgp : w0.heap.size ≤ gp) (hne1 : gs ≠ gp) (hne2 : gd ≠ gp) (hne3 : gs ≠ gd) (hs : 0 < s) (hN : src.length = 2 * s) (hN2 : src.length ≤ 1048576) (h : hk_hin src s d s = some r) :
    Calls Tryd.prog 76 #[.pointer (some ⟨gp, 0, none⟩), .int .i64 s] w fun e w' => e = .returned (.tuple #[]) ∧ Below w0.heap.size w0 w' ∧ Kept w w' (fun j => j = gp ∨ j = gd) ∧
      w'.heap[gp]? = some (.cells #[.slice P np cp, .int .u64 u, .slice (some ⟨gd, 0, none⟩) src.length cD, .slice (some ⟨gs, 0, none⟩) src.length cS] 105 (0, 0)) ∧
      Kd.R (Kd.int .u64) 23 w' w0.heap.size (fun j => j = gd) (.slice (some ⟨gd, 0, none⟩) src.length cD) r := by
  have hgd0 : w0.heap.size ≤ gd := by
    obtain ⟨g', c', e', hb', _⟩ := Kd.R_form hDr (by
      have := Kd.R_reads' hDr
      rw [← this.1, hN]; omega)
    injection e' with e1; injection e1 with e1; injection e1 with e1; rw [e1]; exact hb'
  have Q0 := Aside0.mk (show hk_QE w0 w gp gs gd P np cp cS cD u src [] w from ⟨hB, Kept.refl _ _, hX, hSr, fun p hp => (by cases hp), hgd0, Ne.symm hne2, hne3⟩)
  have D0 := Aside0.mk hDr
  have HGP := Aside0.mk hgp
  have HN := Aside0.mk hN
  have HN2 := Aside0.mk hN2
  have HS := Aside0.mk hs
  have HH := Aside0.mk h
  clear hB hX hSr hDr hgp hne1 hne2 hne3 hs hN hN2 h hgd0
  go_enter Tryd.func76, Tryd.ntmps76
  go_wp2_with fail
  go_loopg [8] s (fun kq v8 w' => ∃ (q : Nat) (z : List Int), v8 = .int .i64 (q : Int) ∧ Aside0 (kq + q = s) ∧ Aside0 (hk_hin src s d q = some z) ∧ Aside0 (hk_QE w0 w gp gs gd P np cp cS cD u src [] w') ∧ Aside0 (Kd.R (Kd.int .u64) 23 w' w0.heap.size (fun j => j = gd) (.slice (some ⟨gd, 0, none⟩) src.length cD) z))
  case atStart => exact ⟨0, d, by simp, ⟨by omega⟩, ⟨rfl⟩, Q0, D0⟩
  case round =>
    obtain ⟨q, z, rfl, HJ, Hz, HQ, HDz⟩ := hrel
    clear Q0 D0
    cases gk with
    | zero =>
      have hj := HJ.out
      have c1 : decide ((q : Int) < (s : Int)) = false := decide_eq_false (by omega)
      have c2 : (q < s) = False := eq_false (by omega)
      have e : q = s := by omega
      rw [e] at Hz
      have er : z = r := by have h1 := Hz.out; rw [HH.out] at h1; injection h1 with h1; exact h1.symm
      rw [er] at HDz
      clear hj e er
      go_wp2_with fail
      have cX0 := hk_blk_cell HQ.out.hX 0 _ rfl
      have cX2 := hk_blk_cell HQ.out.hX 2 _ rfl
      have cX3 := hk_blk_cell HQ.out.hX 3 _ rfl
      have fX2 := hk_blk_frozen HQ.out.hX 2
      have fX3 := hk_blk_frozen HQ.out.hX 3
      go_region
      all_goals
        obtain ⟨q1, q2, q3, q4⟩ := HQ.out.swap HGP.out HDz.out
        go_end0
        exact ⟨rfl, q1, q2, q3, q4⟩
    | succ k2 =>
      have hj := HJ.out
      have hqs : q < s := by omega
      have c1 : decide ((q : Int) < (s : Int)) = true := decide_eq_true (by omega)
      have c2 : (q < s) = True := eq_true hqs
      have hdz : ∃ z', hk_hin src s d (q + 1) = some z' := hk_hin_down (m := k2) (by rw [show q + 1 + k2 = s by omega]; exact HH.out)
      obtain ⟨z', hz'⟩ := hdz
      have hz2 := hz'
      unfold hk_hin at hz2
      rw [Hz.out, Option.bind_some] at hz2
      unfold hk_hstep at hz2
      obtain ⟨k, hk⟩ : ∃ x, x = q + s := ⟨_, rfl⟩
      rw [← hk] at hz2
      obtain ⟨x, hg1, hz2⟩ := Option.bind_eq_some_iff.1 hz2
      obtain ⟨y, hg2, hz2⟩ := Option.bind_eq_some_iff.1 hz2
      have hz3 := Option.some.inj hz2
      have HZ' := Aside0.mk hz'
      have HG1 := Aside0.mk hg1
      have HG2 := Aside0.mk hg2
      have HZ3 := Aside0.mk hz3
      have hN := HN.out
      have hN2 := HN2.out
      have hs := HS.out
      have K0 := Aside0.mk (show q < src.length by omega)
      have K1 := Aside0.mk (show k < src.length by omega)
      have KN := Aside0.mk (show q ≠ k by omega)
      have E1 : IntKind.i64.wrap ((q : Int) + (s : Int)) = (k : Int) := by rw [← Int.natCast_add, ← hk]; exact hk_wn (by omega)
      clear hj hqs hz' hz2 hz3 hg1 hg2 hN hN2 hs hk
      go_wp2_with fail
      have cX2 := hk_blk_cell HQ.out.hX 2 _ rfl
      obtain ⟨ad, ea, hx1⟩ := Kd.at_int (Kd.R_reads' HQ.out.hS).2.2 (q : Int) (by omega) (by have := K0.out; omega)
      obtain ⟨ad2, ea2, hx2⟩ := Kd.at_int (Kd.R_reads' HQ.out.hS).2.2 (k : Int) (by omega) (by have := K1.out; omega)
      cases ea
      cases ea2
      rw [Int.toNat_natCast] at hx1 hx2
      replace hx1 : wr.cell? ⟨gs, q, none⟩ = some (.int .u64 (rd src (q : Int))) := by by_cases c : q = 0 <;> simpa [Addr.add, c] using hx1
      replace hx2 : wr.cell? ⟨gs, k, none⟩ = some (.int .u64 (rd src (k : Int))) := by by_cases c : k = 0 <;> simpa [Addr.add, c] using hx2
      have p0 : ((q : Int) < (src.length : Int)) = True := eq_true (by have := K0.out; omega)
      have p1 : ((k : Int) < (src.length : Int)) = True := eq_true (by have := K1.out; omega)
      have p0' : (q < src.length) = True := eq_true K0.out
      have p1' : (k < src.length) = True := eq_true K1.out
      go_quiet (skip)
      clear cX2 hx1 hx2
      have H1 := Aside0.mk (HQ.out.drewN nq)
      have D1 := Aside0.mk (Kd.R_drewN HDz.out nq)
      generalize wr.drewN nq = W1 at H1 D1 ⊢
      go_wp2_with fail
      have cX3 := hk_blk_cell H1.out.hX 3 _ rfl
      have SQ := Aside0.mk (show ∀ V, hk_QE w0 w gp gs gd P np cp cS cD u src [] V → V.cell? ⟨gp, 3, none⟩ = some (.slice (some ⟨gd, 0, none⟩) src.length cD) from fun V hV => hk_blk_cell hV.hX 3 _ rfl)
      have HC := H1
      have DC := D1
      clear H1 D1
      go_region_held3 (fun V => V.cell? ⟨gp, 3, none⟩ = some (.slice (some ⟨gd, 0, none⟩) src.length cD)) (first | (exact cX3) | ((refine SQ.out _ ?_; (with_reducible repeat (first | exact HC.out | apply hk_QE.drew | apply hk_QE.set)); done)) | go_keep)
        (first | (go_at_call 84; (with_reducible refine (gold_Add.calls (rd src (q : Int)) (rd src (k : Int)) x _ HG1.out).mono ?_); rintro e v1 ⟨rfl, hb1⟩; have n0_ := Aside0.mk (hk_QE.below (by (with_reducible repeat (first | exact HC.out | apply hk_QE.drew))) hb1); have n1_ := Aside0.mk (Kd.R_below (by (with_reducible repeat (first | exact DC.out | apply Kd.R_drew))) hb1); clear HC DC hb1; have HC := n0_; have DC := n1_; clear n0_ n1_) | (go_at_call 85; (with_reducible refine (gold_Sub.calls (rd src (q : Int)) (rd src (k : Int)) y _ HG2.out).mono ?_); rintro e v2 ⟨rfl, hb1⟩; have n0_ := Aside0.mk (hk_QE.below (by (with_reducible repeat (first | exact HC.out | apply hk_QE.drew))) hb1); have n1_ := Aside0.mk (Kd.R_below (by (with_reducible repeat (first | exact DC.out | apply Kd.R_drew))) hb1); clear HC DC hb1; have HC := n0_; have DC := n1_; clear n0_ n1_; obtain ⟨hx, hf⟩ := Kd.R_celln 0 DC.out (q : Int) (by omega) (by have := K0.out; omega); have DP := Kd.R_putn DC.out (q : Int) x; obtain ⟨hx2, hf2⟩ := Kd.R_celln 0 DP (k : Int) (by omega) (by have := K1.out; omega); have DP := Aside0.mk DP; obtain ⟨hx3, hf3⟩ := Kd.R_celln 0 DC.out (k : Int) (by omega) (by have := K1.out; omega); rw [Int.toNat_natCast] at hx hf hx2 hf2 hx3 hf3 DP; have kn := KN.out))
      have H2 := Aside0.mk ((HC.out.set q (.int .u64 x)).set k (.int .u64 y))
      have D2 := Aside0.mk (Kd.R_putn DP.out (k : Int) y)
      rw [Int.toNat_natCast, HZ3.out] at D2
      clear HC DC DP hx hf hx2 hf2 hx3 hf3 kn cX3 SQ p0 p1 p0' p1' c1 c2 E1
      generalize (v2.setCell ⟨gd, q, none⟩ (.int .u64 x)).setCell ⟨gd, k, none⟩ (.int .u64 y) = W2 at H2 D2 ⊢
      go_wp2_with fail
      go_roundg k2
      case measure => omega
      case rel => exact ⟨q + 1, z', (by rw [show wrap64 ((q : Int) + 1) = ((q + 1 : Nat) : Int) by have := HJ.out; have := HN.out; have := HN2.out; unfold wrap64; omega]), ⟨by have := HJ.out; omega⟩, HZ', H2, D2⟩

/-! ### kern4_Kernel_Plain: function 65 (by hand) -/
def hk_mz (n : Nat) : Array Value := madeCells (Value.cells (.int .u64 0)) (n * 1)
theorem hk_mz_run {n : Nat} (h : n ≤ 1048576) (W : World) : (Instr.makeSlice 22 (.int .i64 (n : Int)) (.int .i64 (n : Int))).run Tryd.prog W = .ok (.slice (some ⟨W.heap.size, 0, none⟩) n n) (W.alloc (.cells (hk_mz n) 23)) := by
  obtain ⟨i0, hi, hzz⟩ := Option.map_eq_some_iff.1 info23
  simp only [Prod.mk.injEq] at hzz
  obtain ⟨hz0, hz1, hz2⟩ := hzz
  have hr := run_make (P := Tryd.prog) W 22 23 i0 _ Tryd.underlying22 hi hz0 .i64 .i64 (n : Int) (n : Int) (by omega) (by omega) (by rw [hz2]; omega) (by omega)
  rw [hr, Int.toNat_natCast, hz1]
  rfl
theorem hk_mz_R {n : Nat} (h : n ≤ 1048576) {W : World} {base : Nat} {ok : Nat → Prop} (hb : base ≤ W.heap.size) (hok : ok W.heap.size) : Kd.R (Kd.int .u64) 23 (W.alloc (.cells (hk_mz n) 23)) base ok (.slice (some ⟨W.heap.size, 0, none⟩) n n) (List.replicate n 0) := by
  have hlen : (hk_mz n).size = n := by unfold hk_mz; rw [size_madeCells]; omega
  have h2 := World.ownsRow_lit (base := base) (e := 23) (size := 1) W (hk_mz n) n hb (by unfold maxLen; omega) (by omega)
  refine Kd.R_of_own (enc := Value.int .u64) (h1 := fun _ => rfl) ?_ (fun k hk => by simp [Value.ownBlock] at hk; subst hk; exact hok)
  have e : (hk_mz n).toList = encs (Value.int .u64) (List.replicate n 0) := by
    unfold hk_mz madeCells encs
    rw [List.map_replicate]
    apply List.ext_getElem?
    intro j
    simp [List.getElem?_replicate, Value.cells]
    by_cases hj : j < n
    · simp [hj, Nat.mod_one]
    · simp [hj]
  rw [← e, List.length_replicate]
  exact h2
structure hk_PE (w0 w : World) (gp : Nat) (PD : Option Addr) (np cd : Nat) (ud : Int) (N g1 g2 c1 c2 : Nat) (src dst : List Int) (W : World) : Prop where
  hB : Below w0.heap.size w0 W
  hW : Below w.heap.size w W
  hX : W.heap[gp]? = some (.cells #[.slice PD np cd, .int .u64 ud, .slice (some ⟨g1, 0, none⟩) N c1, .slice (some ⟨g2, 0, none⟩) N c2] 105 (0, 0))
  h1 : Kd.R (Kd.int .u64) 23 W w0.heap.size (fun j => j = g1) (.slice (some ⟨g1, 0, none⟩) N c1) src
  h2 : Kd.R (Kd.int .u64) 23 W w0.heap.size (fun j => j = g2) (.slice (some ⟨g2, 0, none⟩) N c2) dst
  ne : w.heap.size ≤ gp ∧ w.heap.size ≤ g1 ∧ w.heap.size ≤ g2 ∧ g1 ≠ gp ∧ g2 ≠ gp ∧ g1 ≠ g2
theorem hk_scale_new (n : Nat) (g co N : Nat) (l0 sc : List Int) (w0 W : World) (S : Nat → Prop) (hR : Kd.R (Kd.int .u64) 23 W w0.heap.size S (.slice (some ⟨g, 0, none⟩) l0.length co) l0) (hsc : twid_Scale.f n l0 1 = some sc) (hscl : sc.length = l0.length) (hp : 0 < l0.length) :
    Calls Tryd.prog 66 #[.slice (some ⟨g, 0, none⟩) l0.length co, .int .u64 1] W fun e w' => ∃ gs q, e = .returned (.slice (some ⟨gs, 0, none⟩) l0.length q) ∧ W.heap.size ≤ gs ∧ Kd.R (Kd.int .u64) 23 w' W.heap.size (fun j => j = gs) (.slice (some ⟨gs, 0, none⟩) l0.length q) sc ∧ Below W.heap.size W w' := by
  refine (twid_Scale.calls n (some ⟨g, 0, none⟩) co l0 1 sc W (Kd.R_reads' hR).2.2 (Kd.R_reads' hR).2.1 hsc).mono ?_
  rintro e w' ⟨v, rfl, hv, hb⟩
  obtain ⟨gs, q, ev, hge, _, _, _⟩ := Kd.R_form hv (by omega)
  rw [hscl] at ev
  subst ev
  exact ⟨gs, q, rfl, hge, Kd.R_flat (fun h => h) hv (fun k hk _ => by have : some gs = some k := hk; injection this with this; exact this.symm), hb⟩
theorem hk_PE_mk {w0 w v : World} {PD : Option Addr} {np cd : Nat} {ud : Int} {N gs gd q q2 : Nat} {sc ze : List Int} (hB : Below w0.heap.size w0 w) (hwv : Below w.heap.size w v) (hgs : w.heap.size ≤ gs) (hgd : w.heap.size ≤ gd) (hne : gs ≠ gd)
    (h1 : Kd.R (Kd.int .u64) 23 v w0.heap.size (fun j => j = gs) (.slice (some ⟨gs, 0, none⟩) N q) sc) (h2 : Kd.R (Kd.int .u64) 23 v w0.heap.size (fun j => j = gd) (.slice (some ⟨gd, 0, none⟩) N q2) ze) :
    hk_PE w0 w v.heap.size PD np cd ud N gs gd q q2 sc ze (v.alloc (.cells #[.slice PD np cd, .int .u64 ud, .slice (some ⟨gs, 0, none⟩) N q, .slice (some ⟨gd, 0, none⟩) N q2] 105)) := by
  have hg1 := Kd.R_lt h1 gs rfl
  have hg2 := Kd.R_lt h2 gd rfl
  have hww := hwv.alloc hwv.size (.cells #[.slice PD np cd, .int .u64 ud, .slice (some ⟨gs, 0, none⟩) N q, .slice (some ⟨gd, 0, none⟩) N q2] 105)
  exact ⟨hB.trans (hww.mono hB.size), hww, Array.getElem?_push_size, Kd.R_alloc h1 _, Kd.R_alloc h2 _, hwv.size, hgs, hgd, by omega, by omega, hne⟩
def hk_k4s (pw : List Int) (u : Int) (k : Nat) (sc : List Int) : Nat → Option (List Int × List Int)
  | 0 => some (sc, List.replicate sc.length 0)
  | j + 1 => (hk_k4s pw u k sc j).bind fun p => (hk_qout pw p.1 u (2 ^ (k - 2 * j)) (4 ^ j) (p.1.length / 2 ^ (k - 2 * j)) p.2 (2 ^ (k - 2 * j) / 4)).bind fun r => some (r, p.1)
def hk_k4r (pw : List Int) (u : Int) (k : Nat) (sc : List Int) : Option (List Int) := (hk_k4s pw u k sc (k / 2)).bind fun p => if k % 2 = 1 then hk_hin p.1 (4 ^ (k / 2)) p.2 (4 ^ (k / 2)) else some p.1
theorem hk_k4s_down {pw : List Int} {u : Int} {k : Nat} {sc : List Int} : ∀ {j m : Nat} {r : List Int × List Int}, hk_k4s pw u k sc (j + m) = some r → ∃ x, hk_k4s pw u k sc j = some x
  | j, 0, r, h => ⟨r, h⟩
  | j, m + 1, r, h => by
    unfold hk_k4s at h
    obtain ⟨x, hx, _⟩ := Option.bind_eq_some_iff.1 h
    exact hk_k4s_down (m := m) hx
theorem hk_below_of {w0 w w' : World} (hB : Below w0.heap.size w0 w) (hB' : Below w0.heap.size w0 w') (hk : Kept w w' (fun _ => False)) : Below w.heap.size w w' :=
  ⟨hB'.os.trans hB.os.symm, hB'.tape.trans hB.tape.symm, hB'.output.trans hB.output.symm, hk.1, fun i hi => hk.2 i hi (fun h => h)⟩
theorem hk_PE.next {w0 w W w' : World} {gp : Nat} {PD : Option Addr} {np cd : Nat} {ud : Int} {N g1 g2 c1 c2 : Nat} {src dst r : List Int} (hB : Below w0.heap.size w0 w) (h : hk_PE w0 w gp PD np cd ud N g1 g2 c1 c2 src dst W) (hb : Below w0.heap.size w0 w') (hk : Kept W w' (fun j => j = gp ∨ j = g2))
    (hX : w'.heap[gp]? = some (.cells #[.slice PD np cd, .int .u64 ud, .slice (some ⟨g2, 0, none⟩) N c2, .slice (some ⟨g1, 0, none⟩) N c1] 105 (0, 0)))
    (hr : Kd.R (Kd.int .u64) 23 w' w0.heap.size (fun j => j = g2) (.slice (some ⟨g2, 0, none⟩) N c2) r) : hk_PE w0 w gp PD np cd ud N g2 g1 c2 c1 r src w' := by
  obtain ⟨n0, n1, n2, n3, n4, n5⟩ := h.ne
  refine ⟨hb, hk_below_of hB hb ((Kept.of_below h.hW (fun _ => False)).then_ hk (fun q hq => .inr (by rcases hq with rfl | rfl; exact n0; exact n2))), hX, hr, Kd.R_kept h.h1 hk (fun q hq hs => by subst hq; rcases hs with h | h; exact n3 h; exact n5 h), n0, n2, n1, n4, n3, Ne.symm n5⟩
theorem hk_quarter.PE (n s : Nat) (gp : Nat) (PD : Option Addr) (cd : Nat) (ud : Int) (N g1 g2 c1 c2 : Nat) (pd src dst r : List Int) (w0 w W : World) (S : Nat → Prop) (hB : Below w0.heap.size w0 w) (h : hk_PE w0 w gp PD pd.length cd ud N g1 g2 c1 c2 src dst W) (hSL : src.length = N)
    (hT : ∀ W, Kept w W S → Kd.C (Kd.int .u64) W PD pd.length pd) (hs : 0 < s) (hn : 4 ≤ n) (hN : N = n * s) (hN2 : N ≤ 1048576) (hpl : N ≤ pd.length) (hpl2 : pd.length ≤ 1048576) (hq : hk_qout pd src ud n s (src.length / n) dst (n / 4) = some r) :
    Calls Tryd.prog 75 #[.pointer (some ⟨gp, 0, none⟩), .int .i64 n, .int .i64 s] W fun e w' => e = .returned (.tuple #[]) ∧ hk_PE w0 w gp PD pd.length cd ud N g2 g1 c2 c1 r src w' := by
  subst hSL
  obtain ⟨n0, n1, n2, n3, n4, n5⟩ := h.ne
  refine (kern4_quarter.calls n s ud gp g1 g2 PD cd c1 c2 pd src dst r w0 W h.hB h.hX (Kd.C_kept_call hT (Kept.of_below h.hW S) (fun q hq => .inr (by rcases hq with rfl | rfl; exact n0; exact n2))) h.h1 h.h2 (Nat.le_trans hB.size n0) n3 n4 n5 hs hn hN hN2 ?_ hpl2 hq).mono ?_
  · intro i hi
    have e : src.length / n = s := by rw [hN, Nat.mul_div_cancel_left _ (by omega)]
    rw [e]
    have h1 : 3 * i < n := by omega
    have h2 : 3 * i * s < n * s := Nat.mul_lt_mul_of_pos_right h1 hs
    omega
  · rintro e w' ⟨rfl, hb, hk, hX, hr⟩
    exact ⟨rfl, h.next hB hb hk hX hr⟩
theorem hk_half.PE (s : Nat) (gp : Nat) (PD : Option Addr) (cd : Nat) (ud : Int) (N g1 g2 c1 c2 np : Nat) (src dst r : List Int) (w0 w W : World) (hB : Below w0.heap.size w0 w) (h : hk_PE w0 w gp PD np cd ud N g1 g2 c1 c2 src dst W) (hSL : src.length = N)
    (hs : 0 < s) (hN : N = 2 * s) (hN2 : N ≤ 1048576) (hq : hk_hin src s dst s = some r) :
    Calls Tryd.prog 76 #[.pointer (some ⟨gp, 0, none⟩), .int .i64 s] W fun e w' => e = .returned (.tuple #[]) ∧ hk_PE w0 w gp PD np cd ud N g2 g1 c2 c1 r src w' := by
  subst hSL
  obtain ⟨n0, n1, n2, n3, n4, n5⟩ := h.ne
  refine (kern4_half.calls s ud gp g1 g2 PD cd c1 c2 np src dst r w0 W h.hB h.hX h.h1 h.h2 (Nat.le_trans hB.size n0) n3 n4 n5 hs hN hN2 hq).mono ?_
  rintro e w' ⟨rfl, hb, hk, hX, hr⟩
  exact ⟨rfl, h.next hB hb hk hX hr⟩
theorem hk_pow_split {k j : Nat} (h : 2 * j ≤ k) : 2 ^ k = 2 ^ (k - 2 * j) * 4 ^ j := by
  rw [show (4 : Nat) = 2 ^ 2 by rfl, ← Nat.pow_mul, ← Nat.pow_add]; congr 1; omega
theorem hk_four_le {k j : Nat} (h : 2 * j + 2 ≤ k) : 4 ≤ 2 ^ (k - 2 * j) := by
  have := Nat.pow_le_pow_right (n := 2) (by omega) (show 2 ≤ k - 2 * j by omega); omega
theorem hk_pow_quarter {k j : Nat} (h : 2 * j + 2 ≤ k) : 2 ^ (k - 2 * j) / 4 = 2 ^ (k - 2 * (j + 1)) := by
  rw [show k - 2 * j = k - 2 * (j + 1) + 2 by omega, Nat.pow_add]; exact Nat.mul_div_cancel _ (by omega)
set_option maxHeartbeats 40000000 in
set_option maxRecDepth 100000 in
theorem kern4_Plain.calls (n k : Nat) (hk : k ≤ 20) (u : Value) (l0 pd sc r : List Int) (b b2 : Nat) (v0 v1 x0 x1 x2 : Value) (u0 u1 ud s d : Int) (PD : Option Addr) (cd : Nat) (S : Nat → Prop) (hS : ∀ j, S j ↔ u.ownBlock = some j) (w0 w : World) (hB : Below w0.heap.size w0 w)
    (ho0 : Kd.R (Kd.int .u64) 23 w w0.heap.size S u l0)
    (hX : ∀ W, Kept w W S → W.heap[b]? = some (.cells #[.pointer (some ⟨b2, 0, none⟩), v0, v1, .int .u64 u0, .int .u64 u1, .int .u64 s] 93 (0, 0)))
    (hX2 : ∀ W, Kept w W S → W.heap[b2]? = some (.cells #[x0, x1, x2, .int .i64 (k : Int)] 111 (0, 0)))
    (hT : ∀ W, Kept w W S → Kd.C (Kd.int .u64) W PD pd.length pd)
    (hv : (d = 0 ∧ v0 = .slice PD pd.length cd ∧ ud = u0) ∨ (d = 1 ∧ v1 = .slice PD pd.length cd ∧ ud = u1))
    (hl : l0.length = 2 ^ k) (hsc : twid_Scale.f n l0 1 = some sc) (hscl : sc.length = l0.length) (hpl : l0.length ≤ pd.length) (hpl2 : pd.length ≤ 1048576) (h : hk_k4r pd ud k sc = some r) :
    Calls Tryd.prog 65 #[.pointer (some ⟨b, 0, none⟩), u, .int .i64 d] w fun e w' => e = .returned (.int .i64 0) ∧ Kd.R (Kd.int .u64) 23 w' w0.heap.size S u r ∧ Below w0.heap.size w0 w' ∧ Kept w w' S := by
  have HK := Aside0.mk hk
  have HB := Aside0.mk hB
  have HX := Aside0.mk hX
  have HX2 := Aside0.mk hX2
  have HT := Aside0.mk hT
  have HL := Aside0.mk hl
  have HSC := Aside0.mk hsc
  have HSCL := Aside0.mk hscl
  have HPL := Aside0.mk (And.intro hpl hpl2)
  have HH := Aside0.mk h
  obtain ⟨g, co, eo, gb, gl, cl, hGG⟩ := Kd.R_form ho0 (by rw [hl]; exact Nat.two_pow_pos k)
  subst eo
  have HO := Aside0.mk ho0
  have GB := Aside0.mk gb
  have HS := Aside0.mk hS
  have hL : l0.length ≤ 1048576 := by rw [hl]; exact Nat.pow_le_pow_right (n := 2) (by omega) hk
  have HLE := Aside0.mk hL
  have HMK := hk_mz_run hL
  have hcond : ((l0.length : Int) != wrap64 (2 ^ min (IntKind.u64.wrap (k : Int)).toNat 64)) = false := by
    have e : IntKind.u64.wrap (k : Int) = (k : Int) := by simp [IntKind.wrap, IntKind.bits, IntKind.signed]; omega
    rw [e, Int.toNat_natCast, Nat.min_eq_left (by omega), show ((2 : Int) ^ k) = ((2 ^ k : Nat) : Int) by simp, ← i64_w, hk_wn (by rw [← hl]; exact hL), hl]
    exact bne_self_eq_false _
  have hc0 := hk_blk_cell (hX w (Kept.refl _ _)) 0 _ rfl
  have HV := Aside0.mk hv
  clear hk hB hX hX2 hT hl hsc hscl ho0 gb gl hGG hS hL hv hpl hpl2 h
  have key : d = 0 ∨ d = 1 := by rcases HV.out with h | h; exact .inl h.1; exact .inr h.1
  have d1 : decide (d < 0) = false := decide_eq_false (by omega)
  have d2 : decide (1 < d) = false := decide_eq_false (by omega)
  clear key
  go_enter Tryd.func65, Tryd.ntmps65
  go_wp2_with (go_at_call 74; (with_reducible refine (hk_kern2_K.calls b2 x0 x1 x2 k _ (HX2.out _ (Kept.refl _ _))).mono ?_); rintro e w1 ⟨rfl, hb1⟩; have hb1 := Aside0.mk (hk_drawn_below hb1))
  have HP0 := Aside0.mk (show 0 < l0.length by rw [HL.out]; exact Nat.two_pow_pos k)
  have HW := hb1
  go_cut [7] from 10 to 70 (fun v7 wx => ∃ gp g1 g2 c1 c2, v7 = .pointer (some ⟨gp, 0, none⟩) ∧ Aside0 (hk_PE w0 w gp PD pd.length cd ud l0.length g1 g2 c1 c2 sc (List.replicate l0.length 0) wx))
  case first =>
    rcases HV.out with ⟨rfl, rfl, rfl⟩ | ⟨rfl, rfl, rfl⟩
    · have SX := Aside0.mk (show ∀ V, Below w.heap.size w V → V.cell? ⟨b, 1, none⟩ = some (.slice PD pd.length cd) ∧ V.cell? ⟨b, 3, none⟩ = some (.int .u64 ud) from fun V hV => ⟨hk_blk_cell (HX.out V (Kept.of_below hV S)) 1 _ rfl, hk_blk_cell (HX.out V (Kept.of_below hV S)) 3 _ rfl⟩)
      obtain ⟨sx1, sx2⟩ := SX.out _ HW.out
      go_region_held3 (fun V => V.cell? ⟨b, 1, none⟩ = some (.slice PD pd.length cd) ∧ V.cell? ⟨b, 3, none⟩ = some (.int .u64 ud)) (first | ((refine SX.out _ ?_; (with_reducible repeat (first | exact HW.out | apply below_alloc | apply below_drew)); done)) | go_keep) (first | (go_at_call 66; (with_reducible refine (hk_scale_new n g co l0.length l0 sc w0 _ S (Kd.R_below HO.out ?hw) HSC.out HSCL.out HP0.out).mono ?_); (case hw => (with_reducible repeat (first | exact HW.out | apply below_alloc | apply below_drew))); rintro e v ⟨gs, q, rfl, hge, hR, hbv⟩; have hge := Aside0.mk hge; have hR := Aside0.mk hR; have n0_ := Aside0.mk ((by (with_reducible repeat (first | exact HW.out | apply below_alloc | apply below_drew)) : Below w.heap.size w _).trans (hbv.mono (by have := HW.out.size; simp; omega))); have hbv := Aside0.mk hbv; have HW1 := HW; clear HW; have HW := n0_; clear n0_))
      all_goals (go_wp2_with fail)
      all_goals go_meet
      all_goals
        case rel =>
          first
            | (refine ⟨(v.alloc (.cells (hk_mz l0.length) 23)).heap.size, gs, v.heap.size, q, l0.length, (by simp), ⟨?_⟩⟩
               have hz := hk_mz_R (W := v) (base := w0.heap.size) (ok := fun j => j = v.heap.size) HLE.out (by have := HW.out.size; have := HB.out.size; omega) rfl
               have hlt := Kd.R_lt hR.out gs rfl
               have h1 := HW1.out.size
               have h2 := HB.out.size
               have h3 := hge.out
               simp only [World.size_drew] at h3
               exact hk_PE_mk HB.out (HW.out.alloc HW.out.size _) (by omega) (by have := HW.out.size; omega) (by omega) (Kd.R_lower (Kd.R_alloc hR.out _) (by simp only [World.size_drew]; omega)) hz)
            | (refine ⟨_, gs, w1.heap.size, q, l0.length, rfl, ⟨?_⟩⟩
               have hz := hk_mz_R (W := w1) (base := w0.heap.size) (ok := fun j => j = w1.heap.size) HLE.out (by have := hb1.out.size; have := HB.out.size; omega) rfl
               have h1 := hb1.out.size
               have h2 := HB.out.size
               have h3 := hge.out
               simp at h3
               exact hk_PE_mk HB.out HW.out (by omega) (by omega) (by omega) (Kd.R_lower hR.out (by simp; omega)) (Kd.R_below (Kd.R_drew hz) hbv.out))
    · have SX := Aside0.mk (show ∀ V, Below w.heap.size w V → V.cell? ⟨b, 2, none⟩ = some (.slice PD pd.length cd) ∧ V.cell? ⟨b, 4, none⟩ = some (.int .u64 ud) from fun V hV => ⟨hk_blk_cell (HX.out V (Kept.of_below hV S)) 2 _ rfl, hk_blk_cell (HX.out V (Kept.of_below hV S)) 4 _ rfl⟩)
      obtain ⟨sx1, sx2⟩ := SX.out _ HW.out
      go_region_held3 (fun V => V.cell? ⟨b, 2, none⟩ = some (.slice PD pd.length cd) ∧ V.cell? ⟨b, 4, none⟩ = some (.int .u64 ud)) (first | ((refine SX.out _ ?_; (with_reducible repeat (first | exact HW.out | apply below_alloc | apply below_drew)); done)) | go_keep) (first | (go_at_call 66; (with_reducible refine (hk_scale_new n g co l0.length l0 sc w0 _ S (Kd.R_below HO.out ?hw) HSC.out HSCL.out HP0.out).mono ?_); (case hw => (with_reducible repeat (first | exact HW.out | apply below_alloc | apply below_drew))); rintro e v ⟨gs, q, rfl, hge, hR, hbv⟩; have hge := Aside0.mk hge; have hR := Aside0.mk hR; have n0_ := Aside0.mk ((by (with_reducible repeat (first | exact HW.out | apply below_alloc | apply below_drew)) : Below w.heap.size w _).trans (hbv.mono (by have := HW.out.size; simp; omega))); have hbv := Aside0.mk hbv; have HW1 := HW; clear HW; have HW := n0_; clear n0_))
      all_goals (go_wp2_with fail)
      all_goals go_meet
      all_goals
        case rel =>
          first
            | (refine ⟨(v.alloc (.cells (hk_mz l0.length) 23)).heap.size, gs, v.heap.size, q, l0.length, (by simp), ⟨?_⟩⟩
               have hz := hk_mz_R (W := v) (base := w0.heap.size) (ok := fun j => j = v.heap.size) HLE.out (by have := HW.out.size; have := HB.out.size; omega) rfl
               have hlt := Kd.R_lt hR.out gs rfl
               have h1 := HW1.out.size
               have h2 := HB.out.size
               have h3 := hge.out
               simp only [World.size_drew] at h3
               exact hk_PE_mk HB.out (HW.out.alloc HW.out.size _) (by omega) (by have := HW.out.size; omega) (by omega) (Kd.R_lower (Kd.R_alloc hR.out _) (by simp only [World.size_drew]; omega)) hz)
            | (refine ⟨_, gs, w1.heap.size, q, l0.length, rfl, ⟨?_⟩⟩
               have hz := hk_mz_R (W := w1) (base := w0.heap.size) (ok := fun j => j = w1.heap.size) HLE.out (by have := hb1.out.size; have := HB.out.size; omega) rfl
               have h1 := hb1.out.size
               have h2 := HB.out.size
               have h3 := hge.out
               simp at h3
               exact hk_PE_mk HB.out HW.out (by omega) (by omega) (by omega) (Kd.R_lower hR.out (by simp; omega)) (Kd.R_below (Kd.R_drew hz) hbv.out))
  case rest =>
    obtain ⟨gp, g1, g2, c1, c2, rfl, HPE⟩ := hcut
    clear HMK hcond hc0 d1 d2 hb1 HW
    obtain ⟨⟨sf, df⟩, hkf, hfin⟩ := Option.bind_eq_some_iff.1 HH.out
    have HKF := Aside0.mk hkf
    have HFIN := Aside0.mk hfin
    clear hkf hfin
    go_wp2_with fail
    go_loopg [8, 9] (k / 2) (fun kq v8 v9 w' => ∃ (j nv sv : Nat) (src dst : List Int) (f1 f2 e1 e2 : Nat), v8 = .int .i64 (nv : Int) ∧ v9 = .int .i64 (sv : Int) ∧ Aside0 (kq + j = k / 2) ∧ Aside0 (nv = 2 ^ (k - 2 * j) ∧ sv = 4 ^ j) ∧ Aside0 (hk_k4s pd ud k sc j = some (src, dst)) ∧ Aside0 (src.length = l0.length) ∧ Aside0 (hk_PE w0 w gp PD pd.length cd ud l0.length f1 f2 e1 e2 src dst w'))
    case atStart => exact ⟨0, l0.length, 1, sc, _, g1, g2, c1, c2, rfl, rfl, ⟨by omega⟩, ⟨by rw [HL.out]; exact ⟨rfl, rfl⟩⟩, ⟨by unfold hk_k4s; rw [HSCL.out]⟩, HSCL, HPE⟩
    case round =>
      obtain ⟨j, nv, sv, src, dst, f1, f2, e1, e2, rfl, rfl, HJ, HNS, Hk, HSL, HP⟩ := hrel
      cases gk with
      | zero =>
        have ej : j = k / 2 := by have := HJ.out; omega
        rw [ej] at Hk HNS
        have hpr := Hk.out
        rw [HKF.out] at hpr
        injection hpr with hpr
        injection hpr with es ed
        subst es ed
        have HFIN2 := Aside0.mk HFIN.out
        clear ej
        by_cases hodd : k % 2 = 1
        · have hf := HFIN2.out
          rw [if_pos hodd, ← HNS.out.2] at hf
          have HF := Aside0.mk hf
          have hnv : nv = 2 := by rw [HNS.out.1, show k - 2 * (k / 2) = 1 by omega]
          subst hnv
          have hN2 : l0.length = 2 * sv := by
            have h5 := hk_pow_split (k := k) (j := k / 2) (by omega)
            rw [← HNS.out.1, ← HNS.out.2] at h5
            rw [HL.out, h5]
          have hsv : 0 < sv := by rw [HNS.out.2]; exact Nat.pow_pos (by omega)
          have H4 := Aside0.mk (And.intro hsv hN2)
          clear hodd hf hN2 hsv
          go_wp2_with (first | (go_at_call 76; (with_reducible refine (hk_half.PE sv gp PD cd ud l0.length f1 f2 e1 e2 pd.length sf df r w0 w _ HB.out HP.out HSL.out H4.out.1 H4.out.2 HLE.out HF.out).mono ?_); rintro e w3 ⟨rfl, hP3⟩; have cg := hk_blk_cell hP3.hX 2 _ rfl; have HU := Aside0.mk (Kd.R_below HO.out hP3.hW); have HC := Aside0.mk (Kd.R_reads' hP3.h1).2.2; have HCL := Aside0.mk (Kd.R_reads' hP3.h1).1.symm; have HPB := Aside0.mk hP3.hB; have HPW := Aside0.mk hP3.hW; clear hP3) | ((with_reducible refine hk_wpList_copy_whole (o := ⟨some 70, _, _, _, _, _⟩) rfl (.tmp 65) (.tmp 69) 22 23 rfl Tryd.underlying22 ?ci g l0.length co (some ⟨f2, 0, none⟩) e2 ?cd ?cs HU.out HC.out HCL.out HP0.out ?_); (case ci => rfl); (case cd => rfl); (case cs => rfl); intro w4 hR4 hg4; have hB4 := Aside0.mk (HPB.out.trans ⟨hg4.os, hg4.tape, hg4.output, hg4.size, fun q hq => hg4.block q (Nat.lt_of_lt_of_le hq HPB.out.size) (fun e => by have := GB.out; injection e with e; omega)⟩); have hK4 := Aside0.mk (Kept.of_grown hg4 (Kept.of_below HPW.out S) (fun q hq => .inl (by injection hq with hq; rw [← hq]; exact (HS.out g).2 rfl))); have hR4 := Aside0.mk hR4; clear hg4))
          go_ret
          exact ⟨rfl, hR4.out, hB4.out, hK4.out⟩
        · have hf := HFIN2.out
          rw [if_neg hodd] at hf
          have er := Option.some.inj hf
          subst er
          have hnv : nv = 1 := by rw [HNS.out.1, show k - 2 * (k / 2) = 0 by omega]
          subst hnv
          clear hodd hf
          have cg := hk_blk_cell HP.out.hX 2 _ rfl
          have HU := Aside0.mk (Kd.R_below HO.out HP.out.hW)
          have HC := Aside0.mk (Kd.R_reads' HP.out.h1).2.2
          have HCL := Aside0.mk (Kd.R_reads' HP.out.h1).1.symm
          have HPB := Aside0.mk HP.out.hB
          have HPW := Aside0.mk HP.out.hW
          go_wp2_with ((with_reducible refine hk_wpList_copy_whole (o := ⟨some 70, _, _, _, _, _⟩) rfl (.tmp 65) (.tmp 69) 22 23 rfl Tryd.underlying22 ?ci g l0.length co (some ⟨f1, 0, none⟩) e1 ?cd ?cs HU.out HC.out HCL.out HP0.out ?_); (case ci => rfl); (case cd => rfl); (case cs => rfl); intro w4 hR4 hg4; have hB4 := Aside0.mk (HPB.out.trans ⟨hg4.os, hg4.tape, hg4.output, hg4.size, fun q hq => hg4.block q (Nat.lt_of_lt_of_le hq HPB.out.size) (fun e => by have := GB.out; injection e with e; omega)⟩); have hK4 := Aside0.mk (Kept.of_grown hg4 (Kept.of_below HPW.out S) (fun q hq => .inl (by injection hq with hq; rw [← hq]; exact (HS.out g).2 rfl))); have hR4 := Aside0.mk hR4; clear hg4)
          go_ret
          exact ⟨rfl, hR4.out, hB4.out, hK4.out⟩
      | succ k2 =>
        have hj := HJ.out
        have hj2 : 2 * j + 2 ≤ k := by omega
        obtain ⟨x, hx⟩ : ∃ x, hk_k4s pd ud k sc (j + 1) = some x := hk_k4s_down (m := k2) (by rw [show j + 1 + k2 = k / 2 by omega]; exact HKF.out)
        have hx2 := hx
        unfold hk_k4s at hx2
        rw [Hk.out, Option.bind_some, ← HNS.out.1, ← HNS.out.2] at hx2
        obtain ⟨r2, hq, hx2⟩ := Option.bind_eq_some_iff.1 hx2
        have hx3 := Option.some.inj hx2
        subst hx3
        have HQ := Aside0.mk hq
        have HX3 := Aside0.mk hx
        have h4 : 4 ≤ nv := by rw [HNS.out.1]; exact hk_four_le hj2
        have hsv : 0 < sv := by rw [HNS.out.2]; exact Nat.pow_pos (by omega)
        have hNn : l0.length = nv * sv := by rw [HL.out, HNS.out.1, HNS.out.2]; exact hk_pow_split (by omega)
        have H4 := Aside0.mk (And.intro h4 (And.intro hsv hNn))
        have HJ2 := Aside0.mk hj2
        have c1 : decide (4 ≤ (nv : Int)) = true := decide_eq_true (by omega)
        have c2 : (4 ≤ nv) = True := eq_true h4
        clear hj hj2 hx hx2 hq h4 hsv hNn
        go_wp2_with (go_at_call 75; (with_reducible refine (hk_quarter.PE nv sv gp PD cd ud l0.length f1 f2 e1 e2 pd src dst r2 w0 w _ S HB.out HP.out HSL.out HT.out H4.out.2.1 H4.out.1 H4.out.2.2 HLE.out HPL.out.1 HPL.out.2 HQ.out).mono ?_); rintro e w3 ⟨rfl, hP3⟩; have HP3 := Aside0.mk hP3; clear hP3)
        have hr2 := (Kd.R_reads' HP3.out.h1).1
        have HR2 := Aside0.mk hr2
        have hnv : nv ≤ 1048576 := by have := H4.out.2.2; have := HLE.out; have h6 : nv ≤ nv * sv := Nat.le_mul_of_pos_right _ H4.out.2.1; omega
        have hsv2 : 4 * sv ≤ 1048576 := by have := H4.out.2.2; have := HLE.out; have h6 : 4 * sv ≤ nv * sv := Nat.mul_le_mul_right _ H4.out.1; omega
        have HNV := Aside0.mk (And.intro hnv hsv2)
        clear hr2 hnv hsv2 c1 c2
        go_roundg k2
        case measure => omega
        case rel =>
          refine ⟨j + 1, nv / 4, 4 * sv, r2, src, f2, f1, e2, e1, ?_, ?_, ⟨by have := HJ.out; omega⟩, ⟨?_⟩, HX3, ⟨HR2.out.symm⟩, HP3⟩
          · rw [show wrap64 ((nv : Int) / 4) = ((nv / 4 : Nat) : Int) by rw [← i64_w]; exact hk_wn (z := nv / 4) (by have := HNV.out.1; omega)]
          · rw [show wrap64 (4 * (sv : Int)) = ((4 * sv : Nat) : Int) by rw [← i64_w]; exact hk_wn (z := 4 * sv) HNV.out.2]
          · exact ⟨by rw [HNS.out.1]; exact hk_pow_quarter HJ2.out, by rw [HNS.out.2, Nat.pow_succ]; omega⟩

end Go.Proofs.YtaiahgnkgbfcfaaDoor.PNaturalTexts
