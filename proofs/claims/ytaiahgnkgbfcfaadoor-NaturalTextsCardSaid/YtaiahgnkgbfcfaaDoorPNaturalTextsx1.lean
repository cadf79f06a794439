-- Written for this claim by wip/gen/mk.sh, this session's own driver over the kit's print
import Derived.Test.YtaiahgnkgbfcfaaDoorPNaturalTextsx0
namespace Go.Proofs.YtaiahgnkgbfcfaaDoor.PNaturalTexts
open Go.RowKit Go.Proofs.YtaiahgnkgbfcfaaDoorW.PrintWords Go.Proofs.YtaiahgnkgbfcfaaDoorW.PrintLast Go.Proofs.YtaiahgnkgbfcfaaDoorW.PrintMore
attribute [local go_sem] max2_int min2_int max_two min_two max_three min_three max_four min_four   -- for this text's walks alone
set_option linter.unusedVariables false
set_option linter.unusedSimpArgs false

-- NOT PRINTED: function 34 (slices_IndexFunc_uint64_uint64_34)

-- NOT PRINTED: function 18 (slices_ContainsFunc_uint64_uint64_18)

-- NOT PRINTED: function 19 (natural_Good_1)

theorem hk_blk_cell {w : World} {g : Nat} {t : TypeId} {cs : Array Value} (h : w.heap[g]? = some (.cells cs t (0, 0))) (i : Nat) (v : Value) (hv : cs[i]? = some v) : w.cell? ⟨g, i, none⟩ = some v := by
  unfold World.cell?; rw [h]; exact hv
theorem hk_blk_frozen {w : World} {g : Nat} {t : TypeId} {cs : Array Value} (h : w.heap[g]? = some (.cells cs t (0, 0))) (i : Nat) : w.frozen? ⟨g, i, none⟩ = false := by
  unfold World.frozen?; rw [h]; simp
theorem hk_R_out {w : World} {e base : Nat} {ok : Nat → Prop} {v : Value} {xs : List Int} {b : Nat} (h : Kd.R (Kd.int .u64) e w base ok v xs) (hb : b < base) : Kd.R (Kd.int .u64) e w b (fun j => j ≠ b) v xs :=
  Kd.R_lower (Kd.R_mono (Kd.R_bound h) (fun k hk => by have := hk.2.1; omega)) (by omega)
theorem hk_drawn_below {w w' : World} (h : Drawn0 w w') : Below w.heap.size w w' := by
  obtain ⟨n, rfl⟩ := h.out
  exact pw_below_drewN (Below.refl _ _) n
theorem hk_wpList_copy_whole {P : Program} {W : World} {ops : Array Oper} {rest : List Oper} {o : Oper} {a : Act} {Q : Exit → Act → World → Prop} (hgd : o.guard = none) (dq sq : Operand) (T e : TypeId)
    (ho : o.op = .call { callee := .builtin .copy, args := #[dq, sq], argTypes := #[T, T] }) (hu : P.underlying T = some (.slice e)) (hsz : (P.info? e).map (·.size) = some 1)
    (g n co : Nat) (sp : Option Addr) (sc : Nat) (hd : a.eval dq = .slice (some ⟨g, 0, none⟩) n co) (hs : a.eval sq = .slice sp n sc) {base : Nat} {ok : Nat → Prop} {xs ys : List Int}
    (hR : Kd.R (Kd.int .u64) e W base ok (.slice (some ⟨g, 0, none⟩) n co) xs) (hC : Kd.C (Kd.int .u64) W sp ys.length ys) (hl : ys.length = n) (hp : 0 < n)
    (h : ∀ W', Kd.R (Kd.int .u64) e W' base ok (.slice (some ⟨g, 0, none⟩) n co) ys → W.grownBy W' (some g) → wpList P ops Q rest (a.put o.dst (goInt n)) W') : wpList P ops Q (o :: rest) a W := by
  obtain ⟨hok, inner, ⟨hlen, hown⟩, _⟩ := hR
  rcases hown with ⟨he, _⟩ | ⟨g', cap, cur, he, hb, hg, hnc, hcm, hcs, htake⟩
  · cases he
  · injection he with e1 e2 e3
    injection e1 with e1
    injection e1 with e1
    subst e1 e3
    have hsp : ∃ ad, sp = some ad := by
      obtain ⟨ad, h1, _⟩ := Kd.at_int hC 0 (by omega) (by omega)
      exact ⟨ad, h1⟩
    obtain ⟨ad, rfl⟩ := hsp
    have hcl : (nums .u64 ys).length = n := by unfold nums; rw [List.length_map]; exact hl
    have hxn : xs.length = n := e2.symm
    refine wpList_copy_own hgd dq sq T T ho e hu hsz g 0 n co ad n sc hd hs cur e hg (nums .u64 ys) (by rw [hcl]; simp) ?_ (by rw [hcl]; have : (Kd.int .u64).sz = 1 := rfl; rw [this] at hcs; omega) ?_ ?_
    · intro j v hv
      unfold nums at hv
      rw [List.getElem?_map] at hv
      obtain ⟨y, hy, rfl⟩ := Option.map_eq_some_iff.1 hv
      have hj := (List.getElem?_eq_some_iff.1 hy).1
      obtain ⟨ad', h1, h2⟩ := Kd.at_int hC (j : Int) (by omega) (by omega)
      injection h1 with h1
      subst h1
      rw [Int.toNat_natCast] at h2
      rw [h2]
      unfold rd
      rw [Int.toNat_natCast, List.getD_eq_getElem?_getD, hy]
      rfl
    · intro v hv
      unfold nums at hv
      obtain ⟨y, _, rfl⟩ := List.mem_map.1 hv
      rfl
    · rw [hcl]
      refine h _ ?_ ⟨rfl, rfl, rfl, by simp [World.setRow], fun k hk hne => setRow_other W g k _ (fun e => hne (by rw [e]))⟩
      refine Kd.R_of_own (enc := Value.int .u64) (h1 := fun _ => rfl) ?_ hok
      refine ⟨by simp [encs], .inr ⟨g, co, _, by rw [hl], hb, setRow_heap W g _ _ e _ hg, by omega, hcm, ?_, ?_⟩⟩
      · have : (Kd.int .u64).sz = 1 := rfl
        rw [this] at hcs
        simp [hcl]
        omega
      · simp [hcl, hl, encs, nums]
/-- What is refused, and how: a row of another length, an unknown direction. -/
def hk_err (k m : Nat) (d er : Int) : Prop := (m ≠ 2 ^ k ∧ er = 4) ∨ (m = 2 ^ k ∧ (d < 0 ∨ 1 < d) ∧ er = 18)
theorem hk_shl_k {k : Nat} (hk : k ≤ 20) : wrap64 (2 ^ min (IntKind.u64.wrap (k : Int)).toNat 64) = ((2 ^ k : Nat) : Int) := by
  have hp20 : 2 ^ k ≤ 1048576 := Nat.pow_le_pow_right (n := 2) (by omega) hk
  have e : IntKind.u64.wrap (k : Int) = (k : Int) := by simp [IntKind.wrap, IntKind.bits, IntKind.signed]; omega
  rw [e, Int.toNat_natCast, Nat.min_eq_left (by omega), show ((2 : Int) ^ k) = ((2 ^ k : Nat) : Int) by simp]
  generalize 2 ^ k = p at hp20 ⊢
  unfold wrap64
  omega
/-- A kernel by halves stands: its blocks lie between lo and hi. -/
def hk_K2 (k : Nat) (t0 t1 : List Int) (s : Int) (lo hi b : Nat) (W : World) : Prop :=
  (lo ≤ b ∧ b < hi) ∧ ∃ (v0 v1 : Value), W.heap[b]? = some (.cells #[v0, v1, .int .u64 s, .int .i64 (k : Int)] 111 (0, 0)) ∧
    Kd.R (Kd.int .u64) 23 W lo (fun j => j < hi) v0 t0 ∧ Kd.R (Kd.int .u64) 23 W lo (fun j => j < hi) v1 t1
section
variable {k : Nat} {t0 t1 : List Int} {s : Int} {lo hi b : Nat} {W W2 : World} {S : Nat → Prop}
theorem hk_K2.kept (h : hk_K2 k t0 t1 s lo hi b W) (hk : Kept W W2 S) (hS : ∀ j, S j → j < lo ∨ hi ≤ j) : hk_K2 k t0 t1 s lo hi b W2 := by
  obtain ⟨⟨h0, h1⟩, v0, v1, hX, hR0, hR1⟩ := h
  have no : ∀ j, lo ≤ j → j < hi → ¬ S j := fun j hl hj hs => by have := hS j hs; omega
  exact ⟨⟨h0, h1⟩, v0, v1, blk_kept hX hk (no b h0 h1), Kd.R_mono (Kd.R_kept (Kd.R_bound hR0) hk (fun j hj => no j hj.2.1 hj.1)) (fun j hj => hj.1), Kd.R_mono (Kd.R_kept (Kd.R_bound hR1) hk (fun j hj => no j hj.2.1 hj.1)) (fun j hj => hj.1)⟩
theorem hk_K2.below (h : hk_K2 k t0 t1 s lo hi b W) (hb : Below W.heap.size W W2) : hk_K2 k t0 t1 s lo hi b W2 :=
  h.kept (Kept.of_below hb (fun _ => False)) (fun _ hf => hf.elim)
end
theorem hk_K2.inner {k : Nat} {t0 t1 : List Int} {s : Int} {lo hi b : Nat} {W : World} (h : hk_K2 k t0 t1 s lo hi b W) : ∃ (v0 v1 : Value), W.heap[b]? = some (.cells #[v0, v1, .int .u64 s, .int .i64 (k : Int)] 111 (0, 0)) := by
  obtain ⟨_, v0, v1, hX, _, _⟩ := h
  exact ⟨v0, v1, hX⟩
/-! ### natural_Good: function 12 (by hand) -/
set_option maxHeartbeats 800000 in
set_option maxRecDepth 100000 in
theorem hk_good1.calls (x : Int) (r : Bool) (hr : decide (65536 ≤ x) = r) (w : World) : Calls Tryd.prog 19 #[.int .u64 x] w fun e w' => e = .returned (.bool r) ∧ Drawn0 w w' := by
  go_enter Tryd.func19, Tryd.ntmps19
  go_wp2
  go_ret
  exact ⟨by first | rfl | rw [hr], by repeat (first | exact Drawn0.refl _ | apply Drawn0.step)⟩
theorem hk_drawn_trans {w w1 w2 : World} (h : Drawn0 w w1) (h2 : Drawn0 w1 w2) : Drawn0 w w2 := by
  obtain ⟨n, rfl⟩ := h2.out
  exact h.step n
/-- Is one of the words no digit? -/
def hk_big (l : List Int) : Bool := l.any fun d => decide (65536 ≤ d)
set_option maxHeartbeats 8000000 in
set_option maxRecDepth 100000 in
theorem hk_bigIndex.calls (A1 : Option Addr) (c1 : Nat) (l : List Int) (w : World) (hr : Kd.C (Kd.int .u64) w A1 l.length l) :
    Calls Tryd.prog 34 #[.slice A1 l.length c1, .func (.func 19) #[] #[]] w fun e w' => ∃ r : Int, e = .returned (.int .i64 r) ∧ decide (0 ≤ r) = hk_big l ∧ Drawn0 w w' := by
  have HR := Aside0.mk hr
  have HM := Aside0.mk hr.2.1
  clear hr
  go_enter Tryd.func34, Tryd.ntmps34
  go_wp2
  go_loopg [8] (l.length) (fun kq v8 w' => ∃ (i : Nat), v8 = .int .i64 (i : Int) ∧ Aside0 (kq + i = l.length) ∧ Aside0 (∀ j, j < i → l.getD j 0 < 65536) ∧ Aside0 (Drawn0 w w'))
  case atStart => exact ⟨0, by simp, ⟨by omega⟩, ⟨fun j hj => by omega⟩, ⟨by repeat (first | exact Drawn0.refl _ | apply Drawn0.step)⟩⟩
  case round =>
    obtain ⟨i, rfl, HI, HS, HD⟩ := hrel
    cases gk with
    | zero =>
      have hi := HI.out
      have c1 : decide ((i : Int) < (l.length : Int)) = false := decide_eq_false (by omega)
      have c2 : (i < l.length) = False := eq_false (by omega)
      have hlong : hk_big l = false := by
        unfold hk_big
        rw [List.any_eq_false]
        intro p hp
        obtain ⟨j, hj, rfl⟩ := List.mem_iff_getElem.1 hp
        have := HS.out j (by omega)
        rw [List.getD_eq_getElem?_getD, List.getElem?_eq_getElem hj] at this
        simpa using this
      have HLG := Aside0.mk hlong
      clear hi hlong
      go_wp2
      go_ret
      exact ⟨-1, rfl, by rw [HLG.out]; rfl, by repeat (first | exact HD.out | apply Drawn0.step)⟩
    | succ k1 =>
      have hi := HI.out
      have hil : i < l.length := by omega
      have c1 : decide ((i : Int) < (l.length : Int)) = true := decide_eq_true (by omega)
      have c2 : (i < l.length) = True := eq_true hil
      have c3 : (0 ≤ (i : Int)) = True := eq_true (by omega)
      have c4 : ((i : Int) < (l.length : Int)) = True := eq_true (by omega)
      obtain ⟨ad, e0, hx⟩ := Kd.at_int HR.out (i : Int) (by omega) (by omega)
      have hx := (HD.out.below.cell (World.block_lt_of_cell? w _ hx)).trans hx
      rw [Int.toNat_natCast] at hx
      subst e0
      have ex : rd l (i : Int) = l.getD i 0 := by unfold rd; rw [Int.toNat_natCast]
      rw [ex] at hx
      have HMEM := Aside0.mk (show l.getD i 0 ∈ l by rw [List.getD_eq_getElem?_getD, List.getElem?_eq_getElem hil]; exact List.getElem_mem hil)
      clear hi ex hil
      by_cases c : 65536 ≤ l.getD i 0
      · have HQ := Aside0.mk (decide_eq_true c)
        have HLG := Aside0.mk (show hk_big l = true by unfold hk_big; rw [List.any_eq_true]; exact ⟨_, HMEM.out, decide_eq_true c⟩)
        clear c HMEM
        generalize l.getD i 0 = m at hx HQ
        go_wp2_with ((go_at_call 19; (with_reducible refine (hk_good1.calls m true HQ.out _).mono ?_); rintro e w5 ⟨rfl, hd5⟩; have HD5 := Aside0.mk (hk_drawn_trans HD.out hd5); clear hd5))
        go_ret
        exact ⟨(i : Int), rfl, by rw [HLG.out]; exact decide_eq_true (by omega), by repeat (first | exact HD5.out | apply Drawn0.step)⟩
      · have HQ := Aside0.mk (decide_eq_false c)
        have HS2 : Aside0 (∀ j, j < i + 1 → l.getD j 0 < 65536) := ⟨fun j hj => by
          rcases Nat.lt_or_ge j i with h | h
          · exact HS.out j h
          · obtain rfl : j = i := by omega
            omega⟩
        clear c HMEM
        generalize l.getD i 0 = m at hx HQ
        go_wp2_with ((go_at_call 19; (with_reducible refine (hk_good1.calls m false HQ.out _).mono ?_); rintro e w5 ⟨rfl, hd5⟩; have HD5 := Aside0.mk (hk_drawn_trans HD.out hd5); clear hd5))
        clear hx c1 c2 c3 c4
        go_roundg k1
        case measure => omega
        case rel => exact ⟨i + 1, (by rw [show wrap64 ((i : Int) + 1) = ((i + 1 : Nat) : Int) by have := HI.out; have := HM.out; unfold wrap64; omega]), ⟨by have := HI.out; omega⟩, HS2, HD5⟩
set_option maxHeartbeats 800000 in
set_option maxRecDepth 100000 in
theorem hk_bigContains.calls (A1 : Option Addr) (c1 : Nat) (l : List Int) (w : World) (hr : Kd.C (Kd.int .u64) w A1 l.length l) :
    Calls Tryd.prog 18 #[.slice A1 l.length c1, .func (.func 19) #[] #[]] w fun e w' => e = .returned (.bool (hk_big l)) ∧ Drawn0 w w' := by
  have HR := Aside0.mk hr
  clear hr
  go_enter Tryd.func18, Tryd.ntmps18
  go_wp2_with ((go_at_call 34; (with_reducible refine (hk_bigIndex.calls A1 c1 l _ HR.out).mono ?_); rintro e w5 ⟨r, rfl, hl5, hd5⟩; have HD5 := Aside0.mk hd5; have HL5 := Aside0.mk hl5; clear hd5))
  go_ret
  exact ⟨by first | rfl | rw [HL5.out] | (rw [← HL5.out]), by repeat (first | exact HD5.out | apply Drawn0.step)⟩
/-- Is the number right: of so many digits, its last one not 0? -/
def hk_good (l : List Int) : Bool := if 65536 < l.length then false else if 0 < l.length ∧ rd l ((l.length : Int) - 1) = 0 then false else !hk_big l
def natural_Good.f (l : List Int) : Option Bool := some (hk_good l)
set_option maxHeartbeats 8000000 in
set_option maxRecDepth 100000 in
theorem hk_Good (A0 : Option Addr) (c0 : Nat) (l : List Int) (w : World) (hr0 : Kd.C (Kd.int .u64) w A0 l.length l) : Calls Tryd.prog 12 #[.slice A0 l.length c0] w fun e w' => e = .returned (.bool (hk_good l)) ∧ Drawn0 w w' := by
  have HR := Aside0.mk hr0
  have HM := Aside0.mk hr0.2.1
  clear hr0
  by_cases c1_ : 65536 < l.length
  · have e : hk_good l = false := if_pos c1_
    rw [e]
    have d1 : decide (65536 < (l.length : Int)) = true := decide_eq_true (by omega)
    have d2 : (65536 < l.length) = True := eq_true c1_
    clear c1_ e
    go_enter Tryd.func12, Tryd.ntmps12
    go_wp2
    go_ret
    exact ⟨rfl, by repeat (first | exact Drawn0.refl _ | apply Drawn0.step)⟩
  have d1 : decide (65536 < (l.length : Int)) = false := decide_eq_false (by omega)
  have d2 : (65536 < l.length) = False := eq_false c1_
  by_cases c2_ : 0 < l.length
  · have d3 : decide (0 < (l.length : Int)) = true := decide_eq_true (by omega)
    have d4 : (0 < l.length) = True := eq_true c2_
    have m1 : wrap64 ((l.length : Int) - 1) = (l.length : Int) - 1 := by unfold wrap64; omega
    have p1 : (0 ≤ (l.length : Int) - 1) = True := eq_true (by omega)
    have p2 : ((l.length : Int) - 1 < (l.length : Int)) = True := eq_true (by omega)
    have p3 : (1 ≤ (l.length : Int)) = True := eq_true (by omega)
    have p4 : (1 ≤ l.length) = True := eq_true (by omega)
    obtain ⟨ad, e0, hx⟩ := Kd.at_int HR.out ((l.length : Int) - 1) (by omega) (by omega)
    subst e0
    rw [show ((l.length : Int) - 1).toNat = l.length - 1 by omega] at hx
    by_cases c3_ : rd l ((l.length : Int) - 1) = 0
    · have e : hk_good l = false := by unfold hk_good; rw [if_neg c1_, if_pos ⟨c2_, c3_⟩]
      rw [e]
      rw [c3_] at hx
      clear c1_ c2_ c3_ e
      go_enter Tryd.func12, Tryd.ntmps12
      go_wp2
      go_ret
      exact ⟨rfl, by repeat (first | exact Drawn0.refl _ | apply Drawn0.step)⟩
    · have e : hk_good l = !hk_big l := by unfold hk_good; rw [if_neg c1_, if_neg (fun h => c3_ h.2)]
      rw [e]
      have d5 : (rd l ((l.length : Int) - 1) == 0) = false := beq_eq_false_iff_ne.2 c3_
      have d6 : (rd l ((l.length : Int) - 1) = 0) = False := eq_false c3_
      clear c1_ c2_ c3_ e
      generalize rd l ((l.length : Int) - 1) = lst at hx d5 d6
      go_enter Tryd.func12, Tryd.ntmps12
      go_wp2_with ((go_at_call 18; (with_reducible refine (hk_bigContains.calls (some ad) c0 l _ HR.out).mono ?_); rintro e w5 ⟨rfl, hd5⟩; have HD5 := Aside0.mk hd5; clear hd5))
      go_ret
      exact ⟨by first | rfl | simp, by repeat (first | exact HD5.out | apply Drawn0.step)⟩
  · have e : hk_good l = !hk_big l := by unfold hk_good; rw [if_neg c1_, if_neg (fun h => c2_ h.1)]
    rw [e]
    have d3 : decide (0 < (l.length : Int)) = false := decide_eq_false (by omega)
    have d4 : (0 < l.length) = False := eq_false c2_
    have d7 : ((l.length : Int) = 0) = True := eq_true (by omega)
    clear c1_ c2_ e d7
    go_enter Tryd.func12, Tryd.ntmps12
    go_wp2_with ((go_at_call 18; (with_reducible refine (hk_bigContains.calls A0 c0 l _ HR.out).mono ?_); rintro e w5 ⟨rfl, hd5⟩; have HD5 := Aside0.mk hd5; clear hd5))
    go_ret
    exact ⟨by first | rfl | simp, by repeat (first | exact HD5.out | apply Drawn0.step)⟩
theorem natural_Good.calls (A0 : Option Addr) (c0 : Nat) (l0 : List Int) (r : Bool) (w : World) (hr0 : Kd.C (Kd.int .u64) w A0 l0.length l0) (hc0 : l0.length ≤ c0) (h : natural_Good.f l0 = some r) :
    Calls Tryd.prog 12 #[.slice A0 l0.length c0] w fun e w' => e = .returned (.bool r) ∧ Drawn0 w w' := by
  obtain rfl := Option.some.inj h
  exact hk_Good A0 c0 l0 w hr0

/-! ### natural_trim: function 31 (by hand) -/
/-- How many words there are without the noughts at the end, of the first so many. -/
def hk_tl (l : List Int) : Nat → Nat
  | 0 => 0
  | n + 1 => if l.getD n 0 = 0 then hk_tl l n else n + 1
theorem hk_tl_le (l : List Int) : ∀ n, hk_tl l n ≤ n
  | 0 => Nat.le_refl _
  | n + 1 => by
    unfold hk_tl
    split
    · have := hk_tl_le l n; omega
    · exact Nat.le_refl _
def natural_trim.f (l : List Int) : Option (List Int) := some (l.take (hk_tl l l.length))
set_option maxHeartbeats 8000000 in
set_option maxRecDepth 100000 in
theorem hk_trim.walk (A0 : Option Addr) (c0 : Nat) (l : List Int) (t : Nat) (ht : hk_tl l l.length = t) (w : World) (hr0 : Kd.C (Kd.int .u64) w A0 l.length l) (hc0 : l.length ≤ c0) :
    Calls Tryd.prog 31 #[.slice A0 l.length c0] w fun e w' => e = .returned (.slice A0 t t) ∧ Drawn0 w w' := by
  have HR := Aside0.mk hr0
  have HC := Aside0.mk hc0
  have HM := Aside0.mk hr0.2.1
  have HT := Aside0.mk ht
  clear hr0 hc0 ht
  go_enter Tryd.func31, Tryd.ntmps31
  go_wp2
  go_loopg [3] (l.length) (fun kq v3 w' => v3 = .int .i64 (kq : Int) ∧ Aside0 (kq ≤ l.length) ∧ Aside0 (hk_tl l kq = t) ∧ Aside0 (Drawn0 w w'))
  case atStart => exact ⟨by simp, ⟨Nat.le_refl _⟩, HT, ⟨by repeat (first | exact Drawn0.refl _ | apply Drawn0.step)⟩⟩
  case round =>
    clear HT
    obtain ⟨rfl, HI, HT, HD⟩ := hrel
    cases gk with
    | zero =>
      have ht := HT.out
      obtain rfl : 0 = t := ht
      have p0 : (0 ≤ c0) = True := eq_true (by omega)
      go_wp2
      go_ret
      exact ⟨rfl, by repeat (first | exact HD.out | apply Drawn0.step)⟩
    | succ k1 =>
      have hi := HI.out
      have hm := HM.out
      obtain ⟨ad, e0, hx⟩ := Kd.at_int HR.out (k1 : Int) (by omega) (by omega)
      subst e0
      have hx := (HD.out.below.cell (World.block_lt_of_cell? w _ hx)).trans hx
      rw [Int.toNat_natCast, show rd l (k1 : Int) = l.getD k1 0 by unfold rd; rw [Int.toNat_natCast]] at hx
      have m1 : wrap64 (((k1 + 1 : Nat) : Int) - 1) = (k1 : Int) := by unfold wrap64; omega
      have m2 : wrap64 ((k1 : Int) + 1 - 1) = (k1 : Int) := by unfold wrap64; omega
      have m3 : wrap64 (k1 : Int) = (k1 : Int) := by unfold wrap64; omega
      have m4 : IntKind.i64.wrap (k1 : Int) = (k1 : Int) := by rw [i64_w]; exact m3
      have p1 : decide (0 < ((k1 + 1 : Nat) : Int)) = true := decide_eq_true (by omega)
      have p2 : decide (0 < (k1 : Int) + 1) = true := decide_eq_true (by omega)
      have p3 : (0 ≤ (k1 : Int)) = True := eq_true (by omega)
      have p4 : ((k1 : Int) < (l.length : Int)) = True := eq_true (by omega)
      have p5 : (k1 < l.length) = True := eq_true (by omega)
      have hw : IntKind.i64.wrap ((k1 : Int) + 1 - 1) = (k1 : Int) := by rw [i64_w]; exact m2
      have ht := HT.out
      unfold hk_tl at ht
      by_cases c : l.getD k1 0 = 0
      · rw [if_pos c] at ht
        rw [c] at hx
        have HT2 := Aside0.mk ht
        clear hi hm ht c HT
        go_wp2
        clear p1 p2 p3 p4 p5 hx
        go_roundg k1
        case measure => omega
        case rel => exact ⟨(by first | rfl | simp [m1, m2, hw]), ⟨by have := HI.out; omega⟩, HT2, ⟨by repeat (first | exact HD.out | apply Drawn0.step)⟩⟩
      · rw [if_neg c] at ht
        subst ht
        have c1 : (l.getD k1 0 == 0) = false := beq_eq_false_iff_ne.2 c
        have c2 : (l.getD k1 0 = 0) = False := eq_false c
        have q1 : (0 ≤ (k1 : Int) + 1) = True := eq_true (by omega)
        have q2 : ((k1 : Int) + 1 ≤ (c0 : Int)) = True := eq_true (by have := HC.out; omega)
        have q3 : (k1 + 1 ≤ c0) = True := eq_true (by have := HC.out; omega)
        have q4 : (k1 < c0) = True := eq_true (by have := HC.out; omega)
        clear hi hm c HT
        generalize l.getD k1 0 = v at hx c1 c2
        go_wp2
        go_ret
        exact ⟨rfl, by repeat (first | exact HD.out | apply Drawn0.step)⟩
theorem natural_trim.calls (P0_ : Nat → Prop) (A0 : Option Addr) (c0 : Nat) (l0 : List Int) (r : List Int) (w : World) (hs0 : Kd.V (Kd.int .u64) 23 w w.heap.size (fun k_ => P0_ k_) (.slice A0 l0.length c0) l0) (h : natural_trim.f l0 = some r) :
    Calls Tryd.prog 31 #[.slice A0 l0.length c0] w fun e w' => ∃ v0_ : Value, e = .returned (v0_) ∧ Kd.V (Kd.int .u64) 23 w' w.heap.size (fun k_ => (P0_ k_ ∨ w.heap.size ≤ k_)) v0_ r ∧ Below w.heap.size w w' := by
  obtain rfl := Option.some.inj h
  have hle := hk_tl_le l0 l0.length
  obtain ⟨_, hc, hf⟩ := Kd.V_at hs0
  refine (hk_trim.walk A0 c0 l0 _ rfl w (Kd.V_reads' hs0).2.2 hc).mono ?_
  rintro e w' ⟨rfl, hd⟩
  refine ⟨_, rfl, ?_, hd.below⟩
  have hl : (l0.take (hk_tl l0 l0.length)).length = hk_tl l0 l0.length := by rw [List.length_take]; omega
  refine ⟨A0, hk_tl l0 l0.length, by rw [hl], by rw [hl]; exact Nat.le_refl _, ?_⟩
  exact Kd.F_below (Kd.F_mono (Kd.F_take hf hle) (fun k hk => .inl hk)) hd.below

/-! ### natural_divSmall: function 15 -/
def natural_divSmall.l0 : Nat → List Int → Int → List Int → Int → Int → Option (List Int × Int)
  | 0, _, _, _, _, _ => none
  | k + 1, x0, x1, x6, x7, x8 => if x8 ≥ 0 then (if 0 ≤ x8 then (if x8 < (x0.length : Int) then (if x1 = 0 then (none) else (if x8 < (x6.length : Int) then (natural_divSmall.l0 k x0 x1 (x6.set (x8 : Int).toNat (IntKind.u64.wrap (Int.tdiv (Go.bits .or .u64 (IntKind.u64.wrap (x7 * 65536)) (rd x0 x8)) x1))) (Int.tmod (Go.bits .or .u64 (IntKind.u64.wrap (x7 * 65536)) (rd x0 x8)) x1) (wrap64 (x8 - 1))) else (none))) else (none)) else (none)) else ((natural_trim.f x6).bind fun t106 => (some (t106, x7)))
def natural_divSmall.f (k : Nat) (l0 : List Int) (a1 : Int) : Option (List Int × Int) := if 0 ≤ (l0.length : Int) then (if ((l0.length : Int) : Int).toNat ≤ 35184372088832 then (natural_divSmall.l0 k l0 a1 (List.replicate ((l0.length : Int) : Int).toNat 0) 0 (wrap64 ((l0.length : Int) - 1))) else (none)) else (none)
theorem natural_divSmall.mono_l : ∀ k, (∀ y0 y1 y2 y3 y4, LeO (natural_divSmall.l0 k y0 y1 y2 y3 y4) (natural_divSmall.l0 (k + 1) y0 y1 y2 y3 y4))
  | 0 => fun _ _ _ _ _ r h => by simp [natural_divSmall.l0] at h
  | k + 1 => by
    have ih0 := natural_divSmall.mono_l k
    · intro y0 y1 y2 y3 y4
      unfold natural_divSmall.l0
      repeat' first
      | (with_reducible exact ih0 _ _ _ _ _)
      | (with_reducible exact LeO.refl _)
      | (with_reducible exact LeO.none _)
      | (with_reducible refine LeO.ite ?_ ?_)
      | (with_reducible refine LeO.bind ?_ (fun _ => ?_))
      | exact ih0 _ _ _ _ _
      | exact LeO.none _
      | refine LeO.ite ?_ ?_
      | refine LeO.bind ?_ (fun _ => ?_)
theorem natural_divSmall.mono : ∀ a0 a1 k, LeO (natural_divSmall.f k a0 a1) (natural_divSmall.f (k + 1) a0 a1) := by
  intro a0 a1 k
  have ih0 := natural_divSmall.mono_l k
  unfold natural_divSmall.f
  repeat' first
      | (with_reducible exact ih0 _ _ _ _ _)
      | (with_reducible exact LeO.refl _)
      | (with_reducible exact LeO.none _)
      | (with_reducible refine LeO.ite ?_ ?_)
      | (with_reducible refine LeO.bind ?_ (fun _ => ?_))
      | exact ih0 _ _ _ _ _
      | exact LeO.none _
      | refine LeO.ite ?_ ?_
      | refine LeO.bind ?_ (fun _ => ?_)
def natural_divSmall.T7 : Bool × List (List Nat × List Nat) := (true, [([], []), ([], []), ([], []), ([], []), ([2, 3], [2, 3]), ([], []), ([], []), ([5, 6], [5, 6]), ([0, 1, 0, 1, 2, 3, 4], [0, 1]), ([8, 4, 0, 1, 2, 3, 4], [4, 8]), ([7, 9, 0, 1, 2, 3, 4, 5, 6, 7, 8, 9], [2, 5, 7])])
def natural_divSmall.B7 : List Nat := [0, 0, 0, 0, 12, 0, 0, 96, 31, 287, 1023]
theorem natural_divSmall.tab7 : rtab .any (opsOf Tryd.f15 7) = natural_divSmall.T7 := by kernel_rfl
theorem natural_divSmall.bits7 : waitsOk natural_divSmall.T7.2 natural_divSmall.B7 = true := by kernel_rfl
set_option maxHeartbeats 8000000 in
set_option maxRecDepth 100000 in
theorem natural_divSmall.calls (k : Nat) (A0 : Option Addr) (c0 : Nat) (l0 : List Int) (a1 : Int) (r1 : List Int) (r2 : Int) (w : World) (hr0 : Kd.C (Kd.int .u64) w A0 l0.length l0) (hc0 : l0.length ≤ c0) (h : natural_divSmall.f k l0 a1 = some (r1, r2)) :
    Calls Tryd.prog 15 #[.slice A0 l0.length c0, .int .u64 a1] w fun e w' => ∃ v0_ : Value, e = .returned (.tuple #[v0_, .int .u64 r2]) ∧ Kd.V (Kd.int .u64) 23 w' w.heap.size (fun k_ => (w.heap.size ≤ k_)) v0_ r1 ∧ Below w.heap.size w w' := by
  have HR0 := Aside0.mk hr0
  have HC0 := Aside0.mk hc0
  clear hr0 hc0
  have HB := Aside0.mk (Below.refl w.heap.size w)
  have H : (if 0 ≤ (l0.length : Int) then (if ((l0.length : Int) : Int).toNat ≤ 35184372088832 then (natural_divSmall.l0 k l0 a1 (List.replicate ((l0.length : Int) : Int).toNat 0) 0 (wrap64 ((l0.length : Int) - 1))) else (none)) else (none)) = some (r1, r2) := h
  clear h
  by_cases c3 : 0 ≤ (l0.length : Int)
  · rw [if_pos c3] at H
    have c3b0 := eq_true c3
    have LTc3 := Aside0.mk (show (((l0.take (0 : Int).toNat).length : Int) = max 0 0) by rw [List.length_take]; omega)
    (try (have LDc3 := Aside0.mk (show ∀ lo_ : Nat, (((l0.take (0 : Int).toNat).drop lo_).length : Int) = (((0 : Int).toNat - lo_ : Nat) : Int) from fun lo_ => by rw [List.length_drop, List.length_take]; omega)))
    have c3b1 : decide (0 ≤ (l0.length : Int)) = true := decide_eq_true c3
    clear c3
    by_cases c4 : ((l0.length : Int) : Int).toNat ≤ 35184372088832
    · rw [if_pos c4] at H
      have c4b0 := eq_true c4
      have c4b1 : decide (((l0.length : Int) : Int).toNat ≤ 35184372088832) = true := decide_eq_true c4
      clear c4
      obtain ⟨y101, hy101⟩ : ∃ y_ : List Int, y_ = (List.replicate ((l0.length : Int) : Int).toNat 0) := ⟨_, rfl⟩
      replace H : (natural_divSmall.l0 k l0 a1 y101 0 (wrap64 ((l0.length : Int) - 1))) = some (r1, r2) := by first | (rw [hy101]; with_reducible exact H) | (have H2_ := (Option.bind_some _ _).symm.trans H; rw [hy101]; with_reducible exact H2_) | (have H2_ := (Option.bind_some _ _).symm.trans H; with_reducible exact H2_) | with_reducible exact H | (rw [hy101]; exact H) | exact H
      have Ny101 := Aside0.mk hy101
      clear hy101
      have H' := Aside0.mk H
      clear H
      go_enter Tryd.func15, Tryd.ntmps15
      go_wp2_with (first | ((with_reducible refine gate_dst (N := 11) rfl ?_); refine Kd.R_make (Kd.int .u64) _ 23 rfl (N := 11) rfl 22 _ _ rfl (l0.length : Int) rfl rfl Tryd.underlying22 (.int .u64 0) 8 info23 rfl (by decide) (by omega) 0 (ok := fun _ => True) (okp := fun _ => True) rfl (fun _ hk => hk) trivial (of_decide_eq_true (by first | (with_reducible assumption) | assumption)) (Nat.le_trans (Nat.mul_le_mul_right _ (of_decide_eq_true (by first | (with_reducible assumption) | assumption) : (l0.length : Int).toNat ≤ 35184372088832)) (by omega)) (Below.refl _ _) (Nat.le_refl _) ?_; intro v102 w5 ho6 hb hg_ hnew_; clear hg_ hnew_; (first | rw [← Ny101.out] at ho6 | (simp only [Int.reduceToNat] at ho6; rw [← Ny101.out] at ho6)); have n0_ := Aside0.mk (Kd.R_lower (Kd.R_newM (M := fun k_ => (w.heap.size ≤ k_)) ho6 (below_size (by repeat (first | (with_reducible first | exact HB.out | apply below_alloc | apply pw_below_drewN | apply below_drew1) | exact HB.out))) (fun k_ h_ => h_)) (below_size (by repeat (first | (with_reducible first | exact HB.out | apply below_alloc | apply pw_below_drewN | apply below_drew1) | exact HB.out)))); have n1_ := Aside0.mk (below_step (by repeat (first | (with_reducible first | exact HB.out | apply below_alloc | apply pw_below_drewN | apply below_drew1) | exact HB.out)) hb); clear HB; have HO103 := n0_; have HB := n1_; clear n0_ n1_; clear hb ho6))
      go_loopg [7, 8] k (fun kq v7 v8 w' => ∃ (x6_1 : List Int) (x7_1 : Int) (x8_1 : Int), v7 = .int .u64 x7_1 ∧ v8 = .int .i64 x8_1 ∧ Aside0 (natural_divSmall.l0 kq l0 a1 x6_1 x7_1 x8_1 = some (r1, r2)) ∧ Aside0 (kq ≤ k) ∧ Aside0 (Kd.R (Kd.int .u64) 23 w' w.heap.size (fun k_ => (w.heap.size ≤ k_)) v102 x6_1) ∧ Aside0 (Below w.heap.size w w'))
      case atStart => exact ⟨(y101), (0), (wrap64 ((l0.length : Int) - 1)), (by first | rfl | (simp; done) | (simp [*]; done)), (by first | rfl | (simp; done) | (simp [*]; done)), H', ⟨Nat.le_refl _⟩, ⟨by (with_reducible repeat (first | apply Kd.R_alloc | apply Kd.R_drewN | apply Kd.R_drew)); exact Kd.R_mono HO103.out (fun _ hk => hk.1)⟩, ⟨by repeat (first | (with_reducible first | exact HB.out | apply below_alloc | apply pw_below_drewN | apply below_drew1) | exact HB.out)⟩⟩
      case round =>
        clear H'
        try clear c1
        try clear p2
        try clear c3
        try clear c3b0
        try clear c3b1
        try clear c4
        try clear c4b0
        try clear c4b1
        try clear p6
        obtain ⟨x6_1, x7_1, x8_1, rfl, rfl, HA, HK1, HO_6, HB⟩ := hrel
        cases gk with
        | zero => exact absurd HA.out (by simp [natural_divSmall.l0])
        | succ k1 =>
          have H := HA.out
          clear HA
          simp only [natural_divSmall.l0] at H
          by_cases c7 : x8_1 ≥ 0
          · rw [if_pos c7] at H
            have c7b0 : decide (0 ≤ x8_1) = true := decide_eq_true c7
            clear c7
            by_cases c8 : 0 ≤ x8_1
            · rw [if_pos c8] at H
              have c8b0 : decide (0 ≤ x8_1) = true := decide_eq_true c8
              clear c8
              by_cases c9 : x8_1 < (l0.length : Int)
              · rw [if_pos c9] at H
                have c9b0 : decide (x8_1 < (l0.length : Int)) = true := decide_eq_true c9
                (try (have c9b0_0 := c9b0; rw [LTc3.out] at c9b0_0))
                (try (have c9b0_0p := eq_true (of_decide_eq_true c9b0_0)))
                (try (have c9b0_1 := c9b0; rw [LDc3.out] at c9b0_1))
                (try (have c9b0_1p := eq_true (of_decide_eq_true c9b0_1)))
                clear c9
                by_cases c10 : a1 = 0
                · rw [if_pos c10] at H
                  exact absurd H (by simp)
                · rw [if_neg c10] at H
                  have c10b0 : (a1 == 0) = false := beq_eq_false_iff_ne.mpr c10
                  have c10b1 : (a1 != 0) = true := bne_iff_ne.mpr c10
                  by_cases c11 : x8_1 < (x6_1.length : Int)
                  · rw [if_pos c11] at H
                    have c11b0 : decide (x8_1 < (x6_1.length : Int)) = true := decide_eq_true c11
                    (try (have c11b0_0 := c11b0; rw [LTc3.out] at c11b0_0))
                    (try (have c11b0_0p := eq_true (of_decide_eq_true c11b0_0)))
                    (try (have c11b0_1 := c11b0; rw [LDc3.out] at c11b0_1))
                    (try (have c11b0_1p := eq_true (of_decide_eq_true c11b0_1)))
                    clear c11
                    obtain ⟨y105, hy105⟩ : ∃ y_ : List Int, y_ = (x6_1.set (x8_1 : Int).toNat (IntKind.u64.wrap (Int.tdiv (Go.bits .or .u64 (IntKind.u64.wrap (x7_1 * 65536)) (rd l0 x8_1)) a1))) := ⟨_, rfl⟩
                    replace H : (natural_divSmall.l0 k1 l0 a1 y105 (Int.tmod (Go.bits .or .u64 (IntKind.u64.wrap (x7_1 * 65536)) (rd l0 x8_1)) a1) (wrap64 (x8_1 - 1))) = some (r1, r2) := by first | (rw [hy105]; with_reducible exact H) | (have H2_ := (Option.bind_some _ _).symm.trans H; rw [hy105]; with_reducible exact H2_) | (have H2_ := (Option.bind_some _ _).symm.trans H; with_reducible exact H2_) | with_reducible exact H | (rw [hy105]; exact H) | exact H
                    have Ny105 := Aside0.mk hy105
                    clear hy105
                    have H' := Aside0.mk H
                    clear H
                    have p104 : 0 ≤ (x8_1 : Int) := of_decide_eq_true (by first | (with_reducible assumption) | assumption)
                    have q104 : x8_1 < (l0.length : Int) := of_decide_eq_true (by first | (with_reducible assumption) | assumption)
                    obtain ⟨ad104, e104, hx104_0⟩ := Kd.at_int HR0.out x8_1 p104 q104
                    cases e104
                    replace hx104_0 := (HB.out.cell (World.block_lt_of_cell? w _ hx104_0)).trans hx104_0
                    replace p104 := eq_true p104
                    replace q104 := eq_true q104
                    try go_wp2
                    have n0_ := Aside0.mk (Kd.R_drew HO_6.out)
                    have n1_ := Aside0.mk (below_drew1 HB.out)
                    clear HO_6
                    clear HB
                    have HO_6 := n0_
                    have HB := n1_
                    clear n0_ n1_
                    have p12 : 0 ≤ (x8_1 : Int) := of_decide_eq_true (by first | (with_reducible assumption) | assumption)
                    have q12 : (x8_1 : Int) < ((x6_1.length : Int) : Int) := of_decide_eq_true (by first | (with_reducible assumption) | assumption)
                    obtain ⟨go12, co12, eo12, gb12, gl12, cl12, HG12⟩ := Kd.R_form HO_6.out (by omega)
                    (first | cases eo12 | (injection eo12 with ea_ en_ ec_; (first | subst ea_ | (injection ea_ with ea_; subst ea_)); subst ec_; clear en_))
                    have GB12 := Aside0.mk gb12
                    have GG12 := Aside0.mk HG12
                    clear gb12 gl12 HG12
                    obtain ⟨hx12_0, hf12_0⟩ := Kd.R_celln 0 HO_6.out (x8_1 : Int) p12 q12
                    replace p12 := eq_true p12
                    replace q12 := eq_true q12
                    have HP14 := Kd.R_putn HO_6.out (x8_1 : Int) (IntKind.u64.wrap (Int.tdiv (Go.bits .or .u64 (IntKind.u64.wrap (x7_1 * 65536)) (rd l0 x8_1)) a1))
                    rw [← Ny105.out] at HP14
                    have HQ14 := Aside0.mk HP14
                    clear HP14
                    refine start_ (n := 11) (S := fun w' => True) (ds := [9]) #[false, false, false, false, false, false, false, false, false, false, false] (by kernel_rfl) rfl rfl trivial (fun hHeld => ?_); refine with_tabW natural_divSmall.tab7 natural_divSmall.bits7 (fun HT_ HW_ => ?_)
                    generalize wr.drew = w13 at HO_6 HB GG12 HQ14 hf12_0 hx12_0 hHeld ⊢
                    refine pure_ (i := 0) (N := some 26) (v := ?_) (a' := ?_) #[true, false, false, false, false, false, false, false, false, false, false] rfl rfl (any_of HT_.out (by kernel_rfl)) (fun _ _ _ h => h) (Or.inl ⟨by rfl, ?_⟩) ?_ ?_
                    rotate_left
                    · intro w'
                      go_simp
                      with_reducible rfl
                    rotate_left
                    · simp only [Act.put, List.setIfInBounds_toArray, List.set_cons_zero, List.set_cons_succ, i64_w, i32_w]
                      rfl
                    refine pure_ (i := 1) (N := some 27) (v := ?_) (a' := ?_) #[true, true, false, false, false, false, false, false, false, false, false] rfl rfl (any_of HT_.out (by kernel_rfl)) (fun _ _ _ h => h) (Or.inl ⟨by rfl, ?_⟩) ?_ ?_
                    rotate_left
                    · intro w'
                      go_simp
                      with_reducible rfl
                    rotate_left
                    · simp only [Act.put, List.setIfInBounds_toArray, List.set_cons_zero, List.set_cons_succ, i64_w, i32_w]
                      rfl
                    refine pure_ (i := 2) (N := some 28) (v := ?_) (a' := ?_) #[true, true, true, false, false, false, false, false, false, false, false] rfl rfl (any_of HT_.out (by kernel_rfl)) (fun _ _ _ h => h) (Or.inl ⟨by rfl, ?_⟩) ?_ ?_
                    rotate_left
                    · intro w'
                      go_simp
                      with_reducible rfl
                    rotate_left
                    · simp only [Act.put, List.setIfInBounds_toArray, List.set_cons_zero, List.set_cons_succ, i64_w, i32_w]
                      rfl
                    refine pure_ (i := 3) (N := some 29) (v := ?_) (a' := ?_) #[true, true, true, true, false, false, false, false, false, false, false] rfl rfl (any_of HT_.out (by kernel_rfl)) (fun _ _ _ h => h) (Or.inl ⟨by rfl, ?_⟩) ?_ ?_
                    rotate_left
                    · intro w'
                      go_simp
                      with_reducible rfl
                    rotate_left
                    · simp only [Act.put, List.setIfInBounds_toArray, List.set_cons_zero, List.set_cons_succ, i64_w, i32_w]
                      rfl
                    refine pure_ (i := 4) (N := some 30) (v := ?_) (a' := ?_) #[true, true, true, true, true, false, false, false, false, false, false] rfl rfl (any_of HT_.out (by kernel_rfl)) (fun _ _ _ h => h) (Or.inl ⟨by rfl, ?_⟩) ?_ ?_
                    rotate_left
                    · intro w'
                      go_simp
                      with_reducible rfl
                    rotate_left
                    · simp only [Act.put, List.setIfInBounds_toArray, List.set_cons_zero, List.set_cons_succ, i64_w, i32_w]
                      rfl
                    refine pure_ (i := 5) (N := some 31) (v := ?_) (a' := ?_) #[true, true, true, true, true, true, false, false, false, false, false] rfl rfl (any_of HT_.out (by kernel_rfl)) (fun _ _ _ h => h) (Or.inl ⟨by rfl, ?_⟩) ?_ ?_
                    rotate_left
                    · intro w'
                      go_simp
                      with_reducible rfl
                    rotate_left
                    · simp only [Act.put, List.setIfInBounds_toArray, List.set_cons_zero, List.set_cons_succ, i64_w, i32_w]
                      rfl
                    refine pure_ (i := 6) (N := some 32) (v := ?_) (a' := ?_) #[true, true, true, true, true, true, true, false, false, false, false] rfl rfl (any_of HT_.out (by kernel_rfl)) (fun _ _ _ h => h) (Or.inl ⟨by rfl, ?_⟩) ?_ ?_
                    rotate_left
                    · intro w'
                      go_simp
                      with_reducible rfl
                    rotate_left
                    · simp only [Act.put, List.setIfInBounds_toArray, List.set_cons_zero, List.set_cons_succ, i64_w, i32_w]
                      rfl
                    refine pure_ (i := 7) (N := some 33) (v := ?_) (a' := ?_) #[true, true, true, true, true, true, true, true, false, false, false] rfl rfl (any_of HT_.out (by kernel_rfl)) (fun _ _ _ h => h) (Or.inl ⟨by rfl, ?_⟩) ?_ ?_
                    rotate_left
                    · intro w'
                      go_simp
                      with_reducible rfl
                    rotate_left
                    · simp only [Act.put, List.setIfInBounds_toArray, List.set_cons_zero, List.set_cons_succ, i64_w, i32_w]
                      rfl
                    refine pure_ (i := 8) (N := some 34) (v := ?_) (a' := ?_) #[true, true, true, true, true, true, true, true, true, false, false] rfl rfl (any_of HT_.out (by kernel_rfl)) (fun _ _ _ h => h) (Or.inl ⟨by rfl, ?_⟩) ?_ ?_
                    rotate_left
                    · intro w'
                      go_simp
                      with_reducible rfl
                    rotate_left
                    · simp only [Act.put, List.setIfInBounds_toArray, List.set_cons_zero, List.set_cons_succ, i64_w, i32_w]
                      rfl
                    refine last_ (i := 9) (N := none) #[true, true, true, true, true, true, true, true, true, true, false] rfl rfl (one_of HT_.out (by kernel_rfl)) (by decide) (fun K hK => ?_)
                    refine skip_ (w1 := ?_) (by rfl) rfl ?_ ?_
                    rotate_left
                    · go_simp
                      rfl
                    refine hK.out _ _ ?_
                    clear hK K
                    refine pure_ (i := 10) (N := some 7) (v := ?_) (a' := ?_) #[true, true, true, true, true, true, true, true, true, true, true] rfl rfl (any_of HT_.out (by kernel_rfl)) (fun _ _ _ h => h) (Or.inl ⟨by rfl, ?_⟩) ?_ ?_
                    rotate_left
                    · intro w'
                      go_simp
                      with_reducible rfl
                    rotate_left
                    · simp only [Act.put, List.setIfInBounds_toArray, List.set_cons_zero, List.set_cons_succ, i64_w, i32_w]
                      rfl
                    refine done_ (done_of HT_.out (by kernel_rfl)) ?_
                    try go_wp2
                    (first | go_roundg k1 | (simp only [add_plain] at *; go_roundg k1))
                    case measure => have := HK1.out; omega
                    case rel => exact ⟨(y105), (Int.tmod (Go.bits .or .u64 (IntKind.u64.wrap (x7_1 * 65536)) (rd l0 x8_1)) a1), (wrap64 (x8_1 - 1)), (by first | rfl | (simp; done) | (simp [*]; done)), (by first | rfl | (simp; done) | (simp [*]; done)), H', ⟨by have := HK1.out; omega⟩, ⟨by (with_reducible repeat (first | apply Kd.R_alloc | apply Kd.R_drewN | apply Kd.R_drew)); exact HQ14.out⟩, ⟨by repeat (first | (with_reducible first | exact HB.out | apply below_alloc | apply pw_below_drewN | apply below_drew1 | refine below_set ?_ GB12.out) | exact HB.out)⟩⟩
                  · rw [if_neg c11] at H
                    exact absurd H (by simp)
              · rw [if_neg c9] at H
                exact absurd H (by simp)
            · rw [if_neg c8] at H
              exact absurd H (by simp)
          · rw [if_neg c7] at H
            have c7b0 : decide (0 ≤ x8_1) = false := decide_eq_false c7
            clear c7
            replace H := Option.bind_eq_some_iff.mp H
            obtain ⟨t106, A150, H⟩ := H
            replace H : (some (t106, x7_1)) = some (r1, r2) := H
            have A15 := Aside0.mk A150
            clear A150
            simp only [Option.some.injEq, Prod.mk.injEq] at H
            obtain ⟨rfl, rfl⟩ := H
            obtain ⟨Ao16, co16, eo16⟩ := Kd.R_slice HO_6.out
            subst eo16
            go_wp2_with (first | ((with_reducible refine gate_callee (f := 31) rfl ?_); refine goesL_ (some 36) rfl rfl Tryd.func31 (by kernel_rfl) rfl #[.slice Ao16 x6_1.length co16] rfl (by (try simp only [List.map_toArray, List.map_cons, List.map_nil]); first | done | rfl | (simp only [List.length_drop, List.length_take]; rfl)) ?_; (with_reducible refine (natural_trim.calls (fun k_ => some k_ = (.slice Ao16 x6_1.length co16 : Value).ownBlock) _ _ x6_1 t106 _ ?side1 A15.out).mono ?_); (case side1 => exact Kd.R_V (Kd.R_tight rfl (HO_6.out))); rintro e w17 ⟨v107, rfl, ho0, hb⟩; refine ⟨_, rfl, ?_⟩; have n0_ := Aside0.mk (Kd.R_below (by (with_reducible repeat (first | apply Kd.R_alloc | apply Kd.R_drewN | apply Kd.R_drew)); exact HO_6.out) hb); have n1_ := Aside0.mk (Kd.V_lower (Kd.V_mono (ok' := fun k_ => (w.heap.size ≤ k_)) ho0 (fun k_ hk_ => Or.elim hk_ (fun hs_ => ((HO_6.out).1 k_ hs_.symm)) (fun hn_ => (Nat.le_trans (below_size (by repeat (first | (with_reducible first | exact HB.out | apply below_alloc | apply pw_below_drewN | apply below_drew1) | exact HB.out))) hn_)))) (below_size (by repeat (first | (with_reducible first | exact HB.out | apply below_alloc | apply pw_below_drewN | apply below_drew1) | exact HB.out)))); have n2_ := Aside0.mk (below_step (by repeat (first | (with_reducible first | exact HB.out | apply below_alloc | apply pw_below_drewN | apply below_drew1) | exact HB.out)) hb); clear HO_6; clear HB; have HO_6 := n0_; have HO108 := n1_; have HB := n2_; clear n0_ n1_ n2_; (try clear hb); (try clear hb2); (try clear hk); (try clear hi); (try clear ho0)))
            go_ret2
            exact ⟨_, by first | rfl | (simp [errW_none, errW_some] <;> rfl) | (simp [*, errW_none, errW_some] <;> rfl), by (with_reducible repeat (first | apply Kd.V_alloc | apply Kd.V_drewN | apply Kd.V_drew)); exact HO108.out, by repeat (first | (with_reducible first | exact HB.out | apply below_alloc | apply pw_below_drewN | apply below_drew1) | exact HB.out)⟩
    · rw [if_neg c4] at H
      exact absurd H (by simp)
  · rw [if_neg c3] at H
    exact absurd H (by simp)

end Go.Proofs.YtaiahgnkgbfcfaaDoor.PNaturalTexts
