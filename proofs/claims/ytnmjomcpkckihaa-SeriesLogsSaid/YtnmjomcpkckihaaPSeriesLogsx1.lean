-- Written for this claim by wip/gen/mk.sh, this session's own driver over the kit's print
import Derived.Test.YtnmjomcpkckihaaPSeriesLogsx0
namespace Go.Proofs.Ytnmjomcpkckihaa.PSeriesLogs
open Go.RowKit Go.Proofs.YtnmjomcpkckihaaW.PrintWords Go.Proofs.YtnmjomcpkckihaaW.PrintLast Go.Proofs.YtnmjomcpkckihaaW.PrintMore
attribute [local go_sem] max2_int min2_int max_two min_two max_three min_three max_four min_four   -- for this text's walks alone
set_option linter.unusedVariables false
set_option linter.unusedSimpArgs false

-- NOT PRINTED: function 57 (slices_IndexFunc_uint64_uint64)

-- NOT PRINTED: function 41 (slices_ContainsFunc_uint64_uint64)

-- NOT PRINTED: function 42 (series_check_1)

theorem hk_blk_cell {w : World} {g : Nat} {t : TypeId} {cs : Array Value} (h : w.heap[g]? = some (.cells cs t (0, 0))) (i : Nat) (v : Value) (hv : cs[i]? = some v) : w.cell? ⟨g, i, none⟩ = some v := by
  unfold World.cell?; rw [h]; exact hv
theorem hk_blk_frozen {w : World} {g : Nat} {t : TypeId} {cs : Array Value} (h : w.heap[g]? = some (.cells cs t (0, 0))) (i : Nat) : w.frozen? ⟨g, i, none⟩ = false := by
  unfold World.frozen?; rw [h]; simp
theorem hk_R_out {w : World} {e base : Nat} {ok : Nat → Prop} {v : Value} {xs : List Int} {b : Nat} (h : Kd.R (Kd.int .u64) e w base ok v xs) (hb : b < base) : Kd.R (Kd.int .u64) e w b (fun j => j ≠ b) v xs :=
  Kd.R_lower (Kd.R_mono (Kd.R_bound h) (fun k hk => by have := hk.2.1; omega)) (by omega)
theorem hk_drawn_below {w w' : World} (h : Drawn0 w w') : Below w.heap.size w w' := by
  obtain ⟨n, rfl⟩ := h.out
  exact pw_below_drewN (Below.refl _ _) n
theorem hk_wpList_copy_whole {P : Program} {W : World} {ops : Array Oper} {rest : List Oper} {o : Oper} {a : Act} {Q : Exit → Act → World → Prop} (hgd : o.guard = none) (dq sq : Operand) (T e : TypeId)
    (ho : o.op = .call { callee := .builtin .copy, args := #[dq, sq], argTypes := #[T, T] }) (hu : P.underlying T = some (.slice e)) (hsz : (P.info? e).map (·.size) = some 1)
    (g n co : Nat) (sp : Option Addr) (sc : Nat) (hd : a.eval dq = .slice (some ⟨g, 0, none⟩) n co) (hs : a.eval sq = .slice sp n sc) {base : Nat} {ok : Nat → Prop} {xs ys : List Int}
    (hR : Kd.R (Kd.int .u64) e W base ok (.slice (some ⟨g, 0, none⟩) n co) xs) (hC : Kd.C (Kd.int .u64) W sp ys.length ys) (hl : ys.length = n) (hp : 0 < n)
    (h : ∀ W', Kd.R (Kd.int .u64) e W' base ok (.slice (some ⟨g, 0, none⟩) n co) ys → W.grownBy W' (some g) → wpList P ops Q rest (a.put o.dst (goInt n)) W') : wpList P ops Q (o :: rest) a W := by
  obtain ⟨hok, inner, ⟨hlen, hown⟩, _⟩ := hR
  rcases hown with ⟨he, _⟩ | ⟨g', cap, cur, he, hb, hg, hnc, hcm, hcs, htake⟩
  · cases he
  · injection he with e1 e2 e3
    injection e1 with e1
    injection e1 with e1
    subst e1 e3
    have hsp : ∃ ad, sp = some ad := by
      obtain ⟨ad, h1, _⟩ := Kd.at_int hC 0 (by omega) (by omega)
      exact ⟨ad, h1⟩
    obtain ⟨ad, rfl⟩ := hsp
    have hcl : (nums .u64 ys).length = n := by unfold nums; rw [List.length_map]; exact hl
    have hxn : xs.length = n := e2.symm
    refine wpList_copy_own hgd dq sq T T ho e hu hsz g 0 n co ad n sc hd hs cur e hg (nums .u64 ys) (by rw [hcl]; simp) ?_ (by rw [hcl]; have : (Kd.int .u64).sz = 1 := rfl; rw [this] at hcs; omega) ?_ ?_
    · intro j v hv
      unfold nums at hv
      rw [List.getElem?_map] at hv
      obtain ⟨y, hy, rfl⟩ := Option.map_eq_some_iff.1 hv
      have hj := (List.getElem?_eq_some_iff.1 hy).1
      obtain ⟨ad', h1, h2⟩ := Kd.at_int hC (j : Int) (by omega) (by omega)
      injection h1 with h1
      subst h1
      rw [Int.toNat_natCast] at h2
      rw [h2]
      unfold rd
      rw [Int.toNat_natCast, List.getD_eq_getElem?_getD, hy]
      rfl
    · intro v hv
      unfold nums at hv
      obtain ⟨y, _, rfl⟩ := List.mem_map.1 hv
      rfl
    · rw [hcl]
      refine h _ ?_ ⟨rfl, rfl, rfl, by simp [World.setRow], fun k hk hne => setRow_other W g k _ (fun e => hne (by rw [e]))⟩
      refine Kd.R_of_own (enc := Value.int .u64) (h1 := fun _ => rfl) ?_ hok
      refine ⟨by simp [encs], .inr ⟨g, co, _, by rw [hl], hb, setRow_heap W g _ _ e _ hg, by omega, hcm, ?_, ?_⟩⟩
      · have : (Kd.int .u64).sz = 1 := rfl
        rw [this] at hcs
        simp [hcl]
        omega
      · simp [hcl, hl, encs, nums]
/-- What is refused, and how: a row of another length, an unknown direction. -/
def hk_err (k m : Nat) (d er : Int) : Prop := (m ≠ 2 ^ k ∧ er = 4) ∨ (m = 2 ^ k ∧ (d < 0 ∨ 1 < d) ∧ er = 18)
theorem hk_shl_k {k : Nat} (hk : k ≤ 20) : wrap64 (2 ^ min (IntKind.u64.wrap (k : Int)).toNat 64) = ((2 ^ k : Nat) : Int) := by
  have hp20 : 2 ^ k ≤ 1048576 := Nat.pow_le_pow_right (n := 2) (by omega) hk
  have e : IntKind.u64.wrap (k : Int) = (k : Int) := by simp [IntKind.wrap, IntKind.bits, IntKind.signed]; omega
  rw [e, Int.toNat_natCast, Nat.min_eq_left (by omega), show ((2 : Int) ^ k) = ((2 ^ k : Nat) : Int) by simp]
  generalize 2 ^ k = p at hp20 ⊢
  unfold wrap64
  omega
/-- A kernel by halves stands: its blocks lie between lo and hi. -/
def hk_K2 (k : Nat) (t0 t1 : List Int) (s : Int) (lo hi b : Nat) (W : World) : Prop :=
  (lo ≤ b ∧ b < hi) ∧ ∃ (v0 v1 : Value), W.heap[b]? = some (.cells #[v0, v1, .int .u64 s, .int .i64 (k : Int)] 93 (0, 0)) ∧
    Kd.R (Kd.int .u64) 29 W lo (fun j => j < hi) v0 t0 ∧ Kd.R (Kd.int .u64) 29 W lo (fun j => j < hi) v1 t1
section
variable {k : Nat} {t0 t1 : List Int} {s : Int} {lo hi b : Nat} {W W2 : World} {S : Nat → Prop}
theorem hk_K2.kept (h : hk_K2 k t0 t1 s lo hi b W) (hk : Kept W W2 S) (hS : ∀ j, S j → j < lo ∨ hi ≤ j) : hk_K2 k t0 t1 s lo hi b W2 := by
  obtain ⟨⟨h0, h1⟩, v0, v1, hX, hR0, hR1⟩ := h
  have no : ∀ j, lo ≤ j → j < hi → ¬ S j := fun j hl hj hs => by have := hS j hs; omega
  exact ⟨⟨h0, h1⟩, v0, v1, blk_kept hX hk (no b h0 h1), Kd.R_mono (Kd.R_kept (Kd.R_bound hR0) hk (fun j hj => no j hj.2.1 hj.1)) (fun j hj => hj.1), Kd.R_mono (Kd.R_kept (Kd.R_bound hR1) hk (fun j hj => no j hj.2.1 hj.1)) (fun j hj => hj.1)⟩
theorem hk_K2.below (h : hk_K2 k t0 t1 s lo hi b W) (hb : Below W.heap.size W W2) : hk_K2 k t0 t1 s lo hi b W2 :=
  h.kept (Kept.of_below hb (fun _ => False)) (fun _ hf => hf.elim)
end
theorem hk_K2.inner {k : Nat} {t0 t1 : List Int} {s : Int} {lo hi b : Nat} {W : World} (h : hk_K2 k t0 t1 s lo hi b W) : ∃ (v0 v1 : Value), W.heap[b]? = some (.cells #[v0, v1, .int .u64 s, .int .i64 (k : Int)] 93 (0, 0)) := by
  obtain ⟨_, v0, v1, hX, _, _⟩ := h
  exact ⟨v0, v1, hX⟩
/-! ### series_check: function 24 (by hand) -/
set_option maxHeartbeats 800000 in
set_option maxRecDepth 100000 in
theorem hk_check1.calls (A : Option Addr) (n c : Nat) (r : Bool) (hr : decide (65536 < (n : Int)) = r) (w : World) : Calls Try.prog 42 #[.slice A n c] w fun e w' => e = .returned (.bool r) ∧ Drawn0 w w' := by
  have hr2 : decide (65536 < n) = r := by rw [← hr]; congr 1; exact propext ⟨fun h => by omega, fun h => by omega⟩
  go_enter Try.func42, Try.ntmps42
  go_wp2
  go_ret
  exact ⟨by first | rfl | rw [hr] | rw [hr2], by repeat (first | exact Drawn0.refl _ | apply Drawn0.step)⟩
theorem hk_drawn_trans {w w1 w2 : World} (h : Drawn0 w w1) (h2 : Drawn0 w1 w2) : Drawn0 w w2 := by
  obtain ⟨n, rfl⟩ := h2.out
  exact h.step n
/-- Is one of the rows longer than a series may be? -/
def hk_long (l : List (List Int)) : Bool := l.any fun p => decide (65536 < p.length)
set_option maxHeartbeats 8000000 in
set_option maxRecDepth 100000 in
theorem hk_indexFunc.calls (A1 : Option Addr) (c1 : Nat) (l : List (List Int)) (w : World) (hr : Kd.C (Kd.slice 29 (Kd.int .u64)) w A1 l.length l) :
    Calls Try.prog 57 #[.slice A1 l.length c1, .func (.func 42) #[] #[]] w fun e w' => ∃ r : Int, e = .returned (.int .i64 r) ∧ decide (0 ≤ r) = hk_long l ∧ Drawn0 w w' := by
  have HR := Aside0.mk hr
  have HM := Aside0.mk hr.2.1
  clear hr
  go_enter Try.func57, Try.ntmps57
  go_wp2
  go_loopg [8] (l.length) (fun kq v8 w' => ∃ (i : Nat), v8 = .int .i64 (i : Int) ∧ Aside0 (kq + i = l.length) ∧ Aside0 (∀ j, j < i → (l.getD j []).length ≤ 65536) ∧ Aside0 (Drawn0 w w'))
  case atStart => exact ⟨0, by simp, ⟨by omega⟩, ⟨fun j hj => by omega⟩, ⟨by repeat (first | exact Drawn0.refl _ | apply Drawn0.step)⟩⟩
  case round =>
    obtain ⟨i, rfl, HI, HS, HD⟩ := hrel
    cases gk with
    | zero =>
      have hi := HI.out
      have c1 : decide ((i : Int) < (l.length : Int)) = false := decide_eq_false (by omega)
      have c2 : (i < l.length) = False := eq_false (by omega)
      have hlong : hk_long l = false := by
        unfold hk_long
        rw [List.any_eq_false]
        intro p hp
        obtain ⟨j, hj, rfl⟩ := List.mem_iff_getElem.1 hp
        have := HS.out j (by omega)
        rw [List.getD_eq_getElem?_getD, List.getElem?_eq_getElem hj] at this
        simpa using this
      have HLG := Aside0.mk hlong
      clear hi hlong
      go_wp2
      go_ret
      exact ⟨-1, rfl, by rw [HLG.out]; rfl, by repeat (first | exact HD.out | apply Drawn0.step)⟩
    | succ k1 =>
      have hi := HI.out
      have hil : i < l.length := by omega
      have c1 : decide ((i : Int) < (l.length : Int)) = true := decide_eq_true (by omega)
      have c2 : (i < l.length) = True := eq_true hil
      have c3 : (0 ≤ (i : Int)) = True := eq_true (by omega)
      have c4 : ((i : Int) < (l.length : Int)) = True := eq_true (by omega)
      obtain ⟨ad, cs, e0, hcs, ⟨Ap, cp, ecs, hpl, hpc⟩, hcell⟩ := ReadsRow.get_ HR.out [] (i : Int) (by omega) (by omega)
      rw [Int.toNat_natCast] at ecs hpl hpc hcell
      have hx := hcell 0 (.slice Ap (l.getD i []).length cp) (by rw [ecs]; rfl)
      rw [show i * (Kd.slice 29 (Kd.int .u64)).sz + 0 = i from by show i * 1 + 0 = i; omega] at hx
      have hx := (HD.out.below.cell (World.block_lt_of_cell? w _ hx)).trans hx
      subst e0
      clear hi hcell hcs hpl hpc ecs
      by_cases c : 65536 < (l.getD i []).length
      · have hq : decide (65536 < ((l.getD i []).length : Int)) = true := decide_eq_true (by omega)
        have HQ := Aside0.mk hq
        have hlong : hk_long l = true := by
          unfold hk_long
          rw [List.any_eq_true]
          refine ⟨l.getD i [], ?_, decide_eq_true c⟩
          rw [List.getD_eq_getElem?_getD, List.getElem?_eq_getElem hil]
          exact List.getElem_mem hil
        have HLG := Aside0.mk hlong
        clear hlong hq c hil
        generalize (l.getD i []).length = m at hx HQ
        go_wp2_with ((go_at_call 42; (with_reducible refine (hk_check1.calls Ap m cp true HQ.out _).mono ?_); rintro e w5 ⟨rfl, hd5⟩; have HD5 := Aside0.mk (hk_drawn_trans HD.out hd5); clear hd5))
        go_ret
        exact ⟨(i : Int), rfl, by rw [HLG.out]; exact decide_eq_true (by omega), by repeat (first | exact HD5.out | apply Drawn0.step)⟩
      · have hq : decide (65536 < ((l.getD i []).length : Int)) = false := decide_eq_false (by omega)
        have HQ := Aside0.mk hq
        have HS2 : Aside0 (∀ j, j < i + 1 → (l.getD j []).length ≤ 65536) := ⟨fun j hj => by
          rcases Nat.lt_or_ge j i with h | h
          · exact HS.out j h
          · obtain rfl : j = i := by omega
            omega⟩
        clear hq c
        generalize (l.getD i []).length = m at hx HQ
        go_wp2_with ((go_at_call 42; (with_reducible refine (hk_check1.calls Ap m cp false HQ.out _).mono ?_); rintro e w5 ⟨rfl, hd5⟩; have HD5 := Aside0.mk (hk_drawn_trans HD.out hd5); clear hd5))
        clear hx c1 c2 c3 c4 hil
        go_roundg k1
        case measure => omega
        case rel => exact ⟨i + 1, (by rw [show wrap64 ((i : Int) + 1) = ((i + 1 : Nat) : Int) by have := HI.out; have := HM.out; unfold wrap64; omega]), ⟨by have := HI.out; omega⟩, HS2, HD5⟩
set_option maxHeartbeats 800000 in
set_option maxRecDepth 100000 in
theorem hk_containsFunc.calls (A1 : Option Addr) (c1 : Nat) (l : List (List Int)) (w : World) (hr : Kd.C (Kd.slice 29 (Kd.int .u64)) w A1 l.length l) :
    Calls Try.prog 41 #[.slice A1 l.length c1, .func (.func 42) #[] #[]] w fun e w' => e = .returned (.bool (hk_long l)) ∧ Drawn0 w w' := by
  have HR := Aside0.mk hr
  clear hr
  go_enter Try.func41, Try.ntmps41
  go_wp2_with ((go_at_call 57; (with_reducible refine (hk_indexFunc.calls A1 c1 l _ HR.out).mono ?_); rintro e w5 ⟨r, rfl, hl5, hd5⟩; have HD5 := Aside0.mk hd5; have HL5 := Aside0.mk hl5; clear hd5))
  go_ret
  exact ⟨by first | rfl | rw [HL5.out] | (rw [← HL5.out]), by repeat (first | exact HD5.out | apply Drawn0.step)⟩
def series_check.f (n : Int) (l : List (List Int)) : Option Int := if n < 0 then some 1 else if n > 65536 then some 1 else if hk_long l = true then some 14 else some 0
set_option maxHeartbeats 800000 in
set_option maxRecDepth 100000 in
theorem series_check.calls (a0 : Int) (A1 : Option Addr) (c1 : Nat) (l1 : List (List Int)) (r : Int) (w : World) (hr1 : Kd.C (Kd.slice 29 (Kd.int .u64)) w A1 l1.length l1) (hc1 : l1.length ≤ c1) (h : series_check.f a0 l1 = some r) :
    Calls Try.prog 24 #[.int .i64 a0, .slice A1 l1.length c1] w fun e w' => e = .returned (.int .i64 r) ∧ Drawn0 w w' := by
  have HR := Aside0.mk hr1
  unfold series_check.f at h
  clear hr1 hc1
  by_cases c1_ : a0 < 0
  · rw [if_pos c1_] at h
    obtain rfl := Option.some.inj h
    have d1 : decide (a0 < 0) = true := decide_eq_true c1_
    clear c1_ h
    go_enter Try.func24, Try.ntmps24
    go_wp2
    go_ret
    exact ⟨rfl, by repeat (first | exact Drawn0.refl _ | apply Drawn0.step)⟩
  rw [if_neg c1_] at h
  have d1 : decide (a0 < 0) = false := decide_eq_false c1_
  by_cases c2_ : a0 > 65536
  · rw [if_pos c2_] at h
    obtain rfl := Option.some.inj h
    have d2 : decide (65536 < a0) = true := decide_eq_true c2_
    clear c1_ c2_ h
    go_enter Try.func24, Try.ntmps24
    go_wp2
    go_ret
    exact ⟨rfl, by repeat (first | exact Drawn0.refl _ | apply Drawn0.step)⟩
  rw [if_neg c2_] at h
  have d2 : decide (65536 < a0) = false := decide_eq_false c2_
  by_cases c3_ : hk_long l1 = true
  · rw [if_pos c3_] at h
    obtain rfl := Option.some.inj h
    clear c1_ c2_ h
    go_enter Try.func24, Try.ntmps24
    go_wp2_with ((go_at_call 41; (with_reducible refine (hk_containsFunc.calls A1 c1 l1 _ HR.out).mono ?_); rintro e w5 ⟨rfl, hd5⟩; have HD5 := Aside0.mk hd5; clear hd5))
    go_ret
    exact ⟨rfl, by repeat (first | exact HD5.out | apply Drawn0.step)⟩
  · rw [if_neg c3_] at h
    obtain rfl := Option.some.inj h
    have c4_ : hk_long l1 = false := by simpa using c3_
    clear c1_ c2_ h c3_
    go_enter Try.func24, Try.ntmps24
    go_wp2_with ((go_at_call 41; (with_reducible refine (hk_containsFunc.calls A1 c1 l1 _ HR.out).mono ?_); rintro e w5 ⟨rfl, hd5⟩; have HD5 := Aside0.mk hd5; clear hd5))
    go_ret
    exact ⟨rfl, by repeat (first | exact HD5.out | apply Drawn0.step)⟩

/-! ### gold_Of: function 43 -/
def gold_Of.f (a0 : Int) : Option (Int) := if a0 ≥ 18446744069414584321 then (some (IntKind.u64.wrap (a0 - 18446744069414584321))) else (some a0)
set_option maxHeartbeats 8000000 in
set_option maxRecDepth 100000 in
theorem gold_Of.calls (a0 : Int) (r : Int) (w : World) (h : gold_Of.f a0 = some r) :
    Calls Try.prog 43 #[.int .u64 a0] w fun e w' => e = .returned (.int .u64 r) ∧ Drawn0 w w' := by
  have H : (if a0 ≥ 18446744069414584321 then (some (IntKind.u64.wrap (a0 - 18446744069414584321))) else (some a0)) = some r := h
  clear h
  by_cases c2 : a0 ≥ 18446744069414584321
  · rw [if_pos c2] at H
    have c2b0 : decide (18446744069414584321 ≤ a0) = true := decide_eq_true c2
    clear c2
    obtain rfl := Option.some.inj H
    go_enter Try.func43, Try.ntmps43
    go_wp2
    go_ret
    exact ⟨by first | rfl | (simp; done) | (simp [*]; done), by repeat (first | exact Drawn0.refl _ | apply Drawn0.step)⟩
  · rw [if_neg c2] at H
    have c2b0 : decide (18446744069414584321 ≤ a0) = false := decide_eq_false c2
    clear c2
    obtain rfl := Option.some.inj H
    go_enter Try.func43, Try.ntmps43
    go_wp2
    go_ret
    exact ⟨by first | rfl | (simp; done) | (simp [*]; done), by repeat (first | exact Drawn0.refl _ | apply Drawn0.step)⟩

/-! ### series_first: function 25 -/
def series_first.f (l0 : List Int) : Option (Int) := if (l0.length : Int) = 0 then (some 0) else (if 0 < (l0.length : Int) then ((gold_Of.f (rd l0 0)).bind fun t102 => (some t102)) else (none))
set_option maxHeartbeats 8000000 in
set_option maxRecDepth 100000 in
theorem series_first.calls (A0 : Option Addr) (c0 : Nat) (l0 : List Int) (r : Int) (w : World) (hr0 : Kd.C (Kd.int .u64) w A0 l0.length l0) (hc0 : l0.length ≤ c0) (h : series_first.f l0 = some r) :
    Calls Try.prog 25 #[.slice A0 l0.length c0] w fun e w' => e = .returned (.int .u64 r) ∧ Drawn0 w w' := by
  have HR0 := Aside0.mk hr0
  have HC0 := Aside0.mk hc0
  clear hr0 hc0
  have H : (if (l0.length : Int) = 0 then (some 0) else (if 0 < (l0.length : Int) then ((gold_Of.f (rd l0 0)).bind fun t102 => (some t102)) else (none))) = some r := h
  clear h
  by_cases c2 : (l0.length : Int) = 0
  · rw [if_pos c2] at H
    have c2b0 : ((l0.length : Int) == 0) = true := beq_iff_eq.mpr c2
    have c2b1 : ((l0.length : Int) != 0) = false := bne_eq_false_iff_eq.mpr c2
    clear c2
    obtain rfl := Option.some.inj H
    go_enter Try.func25, Try.ntmps25
    go_wp2
    go_ret
    exact ⟨by first | rfl | (simp; done) | (simp [*]; done), by repeat (first | exact Drawn0.refl _ | apply Drawn0.step)⟩
  · rw [if_neg c2] at H
    have c2b0 : ((l0.length : Int) == 0) = false := beq_eq_false_iff_ne.mpr c2
    have c2b1 : ((l0.length : Int) != 0) = true := bne_iff_ne.mpr c2
    have c2b2 : ¬ (l0 = []) := fun h_ => c2 (by rw [h_]; rfl)
    by_cases c3 : 0 < (l0.length : Int)
    · rw [if_pos c3] at H
      have c3b0 : decide (0 < (l0.length : Int)) = true := decide_eq_true c3
      have c3b1 : decide (0 < l0.length) = true := decide_eq_true (by omega)
      clear c3
      replace H := Option.bind_eq_some_iff.mp H
      obtain ⟨t102, A40, H⟩ := H
      replace H : (some t102) = some r := H
      have A4 := Aside0.mk A40
      clear A40
      obtain rfl := Option.some.inj H
      have p101 : 0 ≤ (0 : Int) := (by omega)
      have q101 : 0 < (l0.length : Int) := of_decide_eq_true (by first | (with_reducible assumption) | assumption)
      obtain ⟨ad101, e101, hx101_0⟩ := Kd.at_int HR0.out 0 p101 q101
      cases e101
      have qi101 : (0 < l0.length) = True := eq_true (by omega)
      (try rw [show ((0 : Int)).toNat = 0 from rfl] at hx101_0)
      (try rw [Addr.add_zero'] at hx101_0)
      replace p101 := eq_true p101
      replace q101 := eq_true q101
      go_enter Try.func25, Try.ntmps25
      go_wp2_with (first | ((with_reducible refine gate_callee (f := 43) rfl ?_); refine goesL_ (some 9) rfl rfl Try.func43 (by kernel_rfl) rfl #[.int .u64 (rd l0 0)] rfl (by (try simp only [List.map_toArray, List.map_cons, List.map_nil]); first | done | rfl | (simp only [List.length_drop, List.length_take]; rfl)) ?_; (with_reducible refine (gold_Of.calls (rd l0 0) t102 _ A4.out).mono ?_); rintro e w' ⟨rfl, ⟨nd, rfl⟩⟩; refine ⟨_, rfl, ?_⟩))
      go_ret
      exact ⟨by first | rfl | (simp; done) | (simp [*]; done), by repeat (first | exact Drawn0.refl _ | apply Drawn0.step)⟩
    · rw [if_neg c3] at H
      exact absurd H (by simp)

/-! ### series_cut: function 32 -/
def series_cut.l0 : Nat → List Int → List Int → Int → Int → Option (List Int)
  | 0, _, _, _, _ => none
  | k + 1, x0, x5, x12, x13 => if x13 < x12 then (if 0 ≤ x13 then (if x13 < (x0.length : Int) then ((gold_Of.f (rd x0 x13)).bind fun t107 => (if x13 < (x5.length : Int) then (series_cut.l0 k x0 (x5.set (x13 : Int).toNat t107) x12 (wrap64 (x13 + 1))) else (none))) else (none)) else (none)) else (some x5)
def series_cut.f (k : Nat) (l0 : List Int) (a1 : Int) : Option (List Int) := if 0 ≤ a1 then (if (a1 : Int).toNat ≤ 35184372088832 then (series_cut.l0 k l0 (List.replicate (a1 : Int).toNat 0) (mn a1 (l0.length : Int)) 0) else (none)) else (none)
theorem series_cut.mono_l : ∀ k, (∀ y0 y1 y2 y3, LeO (series_cut.l0 k y0 y1 y2 y3) (series_cut.l0 (k + 1) y0 y1 y2 y3))
  | 0 => fun _ _ _ _ r h => by simp [series_cut.l0] at h
  | k + 1 => by
    have ih0 := series_cut.mono_l k
    · intro y0 y1 y2 y3
      unfold series_cut.l0
      repeat' first
      | (with_reducible exact ih0 _ _ _ _)
      | (with_reducible exact LeO.refl _)
      | (with_reducible exact LeO.none _)
      | (with_reducible refine LeO.ite ?_ ?_)
      | (with_reducible refine LeO.bind ?_ (fun _ => ?_))
      | exact ih0 _ _ _ _
      | exact LeO.none _
      | refine LeO.ite ?_ ?_
      | refine LeO.bind ?_ (fun _ => ?_)
theorem series_cut.mono : ∀ a0 a1 k, LeO (series_cut.f k a0 a1) (series_cut.f (k + 1) a0 a1) := by
  intro a0 a1 k
  have ih0 := series_cut.mono_l k
  unfold series_cut.f
  repeat' first
      | (with_reducible exact ih0 _ _ _ _)
      | (with_reducible exact LeO.refl _)
      | (with_reducible exact LeO.none _)
      | (with_reducible refine LeO.ite ?_ ?_)
      | (with_reducible refine LeO.bind ?_ (fun _ => ?_))
      | exact ih0 _ _ _ _
      | exact LeO.none _
      | refine LeO.ite ?_ ?_
      | refine LeO.bind ?_ (fun _ => ?_)
set_option maxHeartbeats 8000000 in
set_option maxRecDepth 100000 in
theorem series_cut.calls (k : Nat) (A0 : Option Addr) (c0 : Nat) (l0 : List Int) (a1 : Int) (r : List Int) (w : World) (hr0 : Kd.C (Kd.int .u64) w A0 l0.length l0) (hc0 : l0.length ≤ c0) (h : series_cut.f k l0 a1 = some r) :
    Calls Try.prog 32 #[.slice A0 l0.length c0, .int .i64 a1] w fun e w' => ∃ v0_ : Value, e = .returned (v0_) ∧ Kd.R (Kd.int .u64) 29 w' w.heap.size (fun _ => True) v0_ r ∧ Below w.heap.size w w' := by
  have HR0 := Aside0.mk hr0
  have HC0 := Aside0.mk hc0
  clear hr0 hc0
  have HB := Aside0.mk (Below.refl w.heap.size w)
  have H : (if 0 ≤ a1 then (if (a1 : Int).toNat ≤ 35184372088832 then (series_cut.l0 k l0 (List.replicate (a1 : Int).toNat 0) (mn a1 (l0.length : Int)) 0) else (none)) else (none)) = some r := h
  clear h
  by_cases c3 : 0 ≤ a1
  · rw [if_pos c3] at H
    have c3b0 := eq_true c3
    have c3b1 : decide (0 ≤ a1) = true := decide_eq_true c3
    clear c3
    by_cases c4 : (a1 : Int).toNat ≤ 35184372088832
    · rw [if_pos c4] at H
      have c4b0 := eq_true c4
      have c4b1 : decide ((a1 : Int).toNat ≤ 35184372088832) = true := decide_eq_true c4
      clear c4
      obtain ⟨y103, hy103⟩ : ∃ y_ : List Int, y_ = (List.replicate (a1 : Int).toNat 0) := ⟨_, rfl⟩
      replace H : (series_cut.l0 k l0 y103 (mn a1 (l0.length : Int)) 0) = some r := by first | (rw [hy103]; with_reducible exact H) | (have H2_ := (Option.bind_some _ _).symm.trans H; rw [hy103]; with_reducible exact H2_) | (have H2_ := (Option.bind_some _ _).symm.trans H; with_reducible exact H2_) | with_reducible exact H | (rw [hy103]; exact H) | exact H
      have Ny103 := Aside0.mk hy103
      clear hy103
      obtain ⟨ji5, hji5⟩ : ∃ j_ : Int, (mn a1 (l0.length : Int)) = j_ := ⟨_, rfl⟩
      replace H : (series_cut.l0 k l0 y103 ji5 0) = some r := by first | (rw [hji5] at H; exact H) | (simp only [hji5] at H ⊢; exact H)
      have hji5_ : (if (l0.length : Int) < a1 then (l0.length : Int) else a1) = ji5 := hji5
      have H' := Aside0.mk H
      clear H
      go_enter Try.func32, Try.ntmps32
      go_wp2_with (first | ((with_reducible refine gate_dst (N := 8) rfl ?_); refine Kd.R_make (Kd.int .u64) _ 29 rfl (N := 8) rfl 22 _ _ rfl a1 rfl rfl Try.underlying22 (.int .u64 0) 8 info29 rfl (by decide) (by omega) 0 (ok := fun _ => True) (okp := fun _ => True) rfl (fun _ hk => hk) trivial (of_decide_eq_true (by first | (with_reducible assumption) | assumption)) (Nat.le_trans (Nat.mul_le_mul_right _ (of_decide_eq_true (by first | (with_reducible assumption) | assumption) : a1.toNat ≤ 35184372088832)) (by omega)) (Below.refl _ _) (Nat.le_refl _) ?_; intro v104 w6 ho7 hb hg_ hnew_; clear hg_ hnew_; (first | rw [← Ny103.out] at ho7 | (simp only [Int.reduceToNat] at ho7; rw [← Ny103.out] at ho7)); have n0_ := Aside0.mk (Kd.R_lower ho7 (below_size (by repeat (first | (with_reducible first | exact HB.out | apply below_alloc | apply pw_below_drewN | apply below_drew1) | exact HB.out)))); have n1_ := Aside0.mk (below_step (by repeat (first | (with_reducible first | exact HB.out | apply below_alloc | apply pw_below_drewN | apply below_drew1) | exact HB.out)) hb); clear HB; have HO105 := n0_; have HB := n1_; clear n0_ n1_; clear hb ho7))
      go_loopg [13] k (fun kq v13 w' => ∃ (x5_1 : List Int) (x13_1 : Int), v13 = .int .i64 x13_1 ∧ Aside0 (series_cut.l0 kq l0 x5_1 ji5 x13_1 = some r) ∧ Aside0 (kq ≤ k) ∧ Aside0 (Kd.R (Kd.int .u64) 29 w' w.heap.size (fun _ => True) v104 x5_1) ∧ Aside0 (Below w.heap.size w w'))
      case atStart => exact ⟨(y103), (0), (by first | rfl | (simp; done) | (simp [*]; done)), H', ⟨Nat.le_refl _⟩, ⟨by (with_reducible repeat (first | apply Kd.R_alloc | apply Kd.R_drewN | apply Kd.R_drew)); exact HO105.out⟩, ⟨by repeat (first | (with_reducible first | exact HB.out | apply below_alloc | apply pw_below_drewN | apply below_drew1) | exact HB.out)⟩⟩
      case round =>
        clear H'
        try clear p2
        try clear c3
        try clear c3b0
        try clear c3b1
        try clear c4
        try clear c4b0
        try clear c4b1
        obtain ⟨x5_1, x13_1, rfl, HA, HK1, HO_5, HB⟩ := hrel
        cases gk with
        | zero => exact absurd HA.out (by simp [series_cut.l0])
        | succ k1 =>
          have H := HA.out
          clear HA
          simp only [series_cut.l0] at H
          by_cases c8 : x13_1 < ji5
          · rw [if_pos c8] at H
            have c8b0 : decide (x13_1 < ji5) = true := decide_eq_true c8
            clear c8
            by_cases c9 : 0 ≤ x13_1
            · rw [if_pos c9] at H
              have c9b0 : decide (0 ≤ x13_1) = true := decide_eq_true c9
              clear c9
              by_cases c10 : x13_1 < (l0.length : Int)
              · rw [if_pos c10] at H
                have c10b0 : decide (x13_1 < (l0.length : Int)) = true := decide_eq_true c10
                clear c10
                replace H := Option.bind_eq_some_iff.mp H
                obtain ⟨t107, A110, H⟩ := H
                replace H : (if x13_1 < (x5_1.length : Int) then (series_cut.l0 k1 l0 (x5_1.set (x13_1 : Int).toNat t107) ji5 (wrap64 (x13_1 + 1))) else (none)) = some r := H
                have A11 := Aside0.mk A110
                clear A110
                by_cases c12 : x13_1 < (x5_1.length : Int)
                · rw [if_pos c12] at H
                  have c12b0 : decide (x13_1 < (x5_1.length : Int)) = true := decide_eq_true c12
                  clear c12
                  obtain ⟨y108, hy108⟩ : ∃ y_ : List Int, y_ = (x5_1.set (x13_1 : Int).toNat t107) := ⟨_, rfl⟩
                  replace H : (series_cut.l0 k1 l0 y108 ji5 (wrap64 (x13_1 + 1))) = some r := by first | (rw [hy108]; with_reducible exact H) | (have H2_ := (Option.bind_some _ _).symm.trans H; rw [hy108]; with_reducible exact H2_) | (have H2_ := (Option.bind_some _ _).symm.trans H; with_reducible exact H2_) | with_reducible exact H | (rw [hy108]; exact H) | exact H
                  have Ny108 := Aside0.mk hy108
                  clear hy108
                  have H' := Aside0.mk H
                  clear H
                  have p106 : 0 ≤ (x13_1 : Int) := of_decide_eq_true (by first | (with_reducible assumption) | assumption)
                  have q106 : x13_1 < (l0.length : Int) := of_decide_eq_true (by first | (with_reducible assumption) | assumption)
                  obtain ⟨ad106, e106, hx106_0⟩ := Kd.at_int HR0.out x13_1 p106 q106
                  cases e106
                  replace hx106_0 := (HB.out.cell (World.block_lt_of_cell? w _ hx106_0)).trans hx106_0
                  replace p106 := eq_true p106
                  replace q106 := eq_true q106
                  go_wp2_with (first | ((with_reducible refine gate_callee (f := 43) rfl ?_); refine goesL_ (some 22) rfl rfl Try.func43 (by kernel_rfl) rfl #[.int .u64 (rd l0 x13_1)] rfl (by (try simp only [List.map_toArray, List.map_cons, List.map_nil]); first | done | rfl | (simp only [List.length_drop, List.length_take]; rfl)) ?_; (with_reducible refine (gold_Of.calls (rd l0 x13_1) t107 _ A11.out).mono ?_); rintro e w' ⟨rfl, ⟨nd, rfl⟩⟩; refine ⟨_, rfl, ?_⟩; (try (rw [drewN_self wr]; generalize hq_ : World.drewN wr _ = wr; have n0_ : Aside0 (Kd.R (Kd.int .u64) 29 wr w.heap.size (fun _ => True) v104 x5_1) := ⟨by rw [← hq_]; exact (by (with_reducible repeat (first | apply Kd.R_alloc | apply Kd.R_drewN | apply Kd.R_drew)); exact HO_5.out)⟩; have n1_ : Aside0 (Below w.heap.size w wr) := ⟨by rw [← hq_]; exact (by repeat (first | (with_reducible first | exact HB.out | apply below_alloc | apply pw_below_drewN | apply below_drew1) | exact HB.out))⟩; clear HO_5 HB hq_; have HO_5 := n0_; have HB := n1_; clear n0_ n1_)); have p13 : 0 ≤ (x13_1 : Int) := of_decide_eq_true (by first | (with_reducible assumption) | assumption); have q13 : (x13_1 : Int) < ((x5_1.length : Int) : Int) := of_decide_eq_true (by first | (with_reducible assumption) | assumption); obtain ⟨go13, co13, eo13, gb13, gl13, cl13, HG13⟩ := Kd.R_form HO_5.out (by omega); (first | cases eo13 | (injection eo13 with ea_ en_ ec_; (first | subst ea_ | (injection ea_ with ea_; subst ea_)); subst ec_; clear en_)); have GB13 := Aside0.mk gb13; have GG13 := Aside0.mk HG13; clear gb13 gl13 HG13; obtain ⟨hx13_0, hf13_0⟩ := Kd.R_celln 0 HO_5.out (x13_1 : Int) p13 q13; replace p13 := eq_true p13; replace q13 := eq_true q13; obtain ⟨hy14_, hz14_⟩ := Kd.R_celln 0 HO_5.out (x13_1 : Int) (of_decide_eq_true (by first | (with_reducible assumption) | assumption)) (of_decide_eq_true (by first | (with_reducible assumption) | assumption)); have HP14 := Kd.R_putg HO_5.out (x13_1 : Int) t107) | ((with_reducible refine gate_store (t := 29) (p := 23) rfl ?_); refine store_event (t := 29) (p := 23) (v := ?vo_w15) (w1 := (wr.setCell ⟨go13, (x13_1 : Int).toNat, none⟩ (.int .u64 t107))) ?hg ?ho ?hn ?hr ?_; (case ho => rfl); (case hg => rfl); (case hn => rfl); (case hr => first | (go_simp; done) | (go_simp; rfl)); intro w15 hw; have hg : wr.grownBy w15 (some go13) := (by rw [hw]; exact HP14.2); have hp_ : Kd.R (Kd.int .u64) 29 w15 w.heap.size (fun _ => True) (.slice (some ⟨go13, 0, none⟩) x5_1.length co13) y108 := (by rw [hw, Ny108.out]; exact HP14.1); clear HP14; have n0_ := Aside0.mk (hp_); have n1_ := Aside0.mk ((by rw [hw]; exact below_set (HB.out) GB13.out : Below w.heap.size w w15)); clear HO_5; clear HB; have HO_5 := n0_; have HB := n1_; clear n0_ n1_; clear hg hw hp_))
                  (first | go_roundg k1 | (simp only [add_plain] at *; go_roundg k1))
                  case measure => have := HK1.out; omega
                  case rel => exact ⟨(y108), (wrap64 (x13_1 + 1)), (by first | rfl | (simp; done) | (simp [*]; done)), H', ⟨by have := HK1.out; omega⟩, ⟨by (with_reducible repeat (first | apply Kd.R_alloc | apply Kd.R_drewN | apply Kd.R_drew)); exact HO_5.out⟩, ⟨by repeat (first | (with_reducible first | exact HB.out | apply below_alloc | apply pw_below_drewN | apply below_drew1) | exact HB.out)⟩⟩
                · rw [if_neg c12] at H
                  exact absurd H (by simp)
              · rw [if_neg c10] at H
                exact absurd H (by simp)
            · rw [if_neg c9] at H
              exact absurd H (by simp)
          · rw [if_neg c8] at H
            have c8b0 : decide (x13_1 < ji5) = false := decide_eq_false c8
            clear c8
            obtain rfl := Option.some.inj H
            go_wp2
            go_ret
            exact ⟨_, by first | rfl | (simp [errW_none, errW_some] <;> rfl) | (simp only [← hji5]; first | rfl | (simp [errW_none, errW_some] <;> rfl)) | (simp [*, errW_none, errW_some] <;> rfl), by (with_reducible repeat (first | apply Kd.R_alloc | apply Kd.R_drewN | apply Kd.R_drew)); exact HO_5.out, by repeat (first | (with_reducible first | exact HB.out | apply below_alloc | apply pw_below_drewN | apply below_drew1) | exact HB.out)⟩
    · rw [if_neg c4] at H
      exact absurd H (by simp)
  · rw [if_neg c3] at H
    exact absurd H (by simp)

-- NOT PRINTED: function 38 (series_longer)

/-! ### gold_Reduce: function 56 -/
def gold_Reduce.f (a0_0 : Int) (a0_1 : Int) : Option (Int) := if a0_1 < (a0_0 / 4294967296) then (if (IntKind.u64.wrap ((IntKind.u64.wrap ((IntKind.u64.wrap (a0_1 - (a0_0 / 4294967296))) - 4294967295)) + (IntKind.u64.wrap ((Go.bits .and .u64 a0_0 4294967295) * 4294967295)))) < (IntKind.u64.wrap ((Go.bits .and .u64 a0_0 4294967295) * 4294967295)) then ((gold_Of.f (IntKind.u64.wrap ((IntKind.u64.wrap ((IntKind.u64.wrap ((IntKind.u64.wrap (a0_1 - (a0_0 / 4294967296))) - 4294967295)) + (IntKind.u64.wrap ((Go.bits .and .u64 a0_0 4294967295) * 4294967295)))) + 4294967295))).bind fun t110 => (some t110)) else ((gold_Of.f (IntKind.u64.wrap ((IntKind.u64.wrap ((IntKind.u64.wrap (a0_1 - (a0_0 / 4294967296))) - 4294967295)) + (IntKind.u64.wrap ((Go.bits .and .u64 a0_0 4294967295) * 4294967295))))).bind fun t111 => (some t111))) else (if (IntKind.u64.wrap ((IntKind.u64.wrap (a0_1 - (a0_0 / 4294967296))) + (IntKind.u64.wrap ((Go.bits .and .u64 a0_0 4294967295) * 4294967295)))) < (IntKind.u64.wrap ((Go.bits .and .u64 a0_0 4294967295) * 4294967295)) then ((gold_Of.f (IntKind.u64.wrap ((IntKind.u64.wrap ((IntKind.u64.wrap (a0_1 - (a0_0 / 4294967296))) + (IntKind.u64.wrap ((Go.bits .and .u64 a0_0 4294967295) * 4294967295)))) + 4294967295))).bind fun t112 => (some t112)) else ((gold_Of.f (IntKind.u64.wrap ((IntKind.u64.wrap (a0_1 - (a0_0 / 4294967296))) + (IntKind.u64.wrap ((Go.bits .and .u64 a0_0 4294967295) * 4294967295))))).bind fun t113 => (some t113)))
set_option maxHeartbeats 8000000 in
set_option maxRecDepth 100000 in
theorem gold_Reduce.calls (a0_0 : Int) (a0_1 : Int) (r : Int) (w : World) (h : gold_Reduce.f a0_0 a0_1 = some r) :
    Calls Try.prog 56 #[.agg #[.int .u64 a0_0, .int .u64 a0_1]] w fun e w' => e = .returned (.int .u64 r) ∧ Below w.heap.size w w' := by
  have hu57 := Try.underlying57
  have HB := Aside0.mk (Below.refl w.heap.size w)
  have H : (if a0_1 < (a0_0 / 4294967296) then (if (IntKind.u64.wrap ((IntKind.u64.wrap ((IntKind.u64.wrap (a0_1 - (a0_0 / 4294967296))) - 4294967295)) + (IntKind.u64.wrap ((Go.bits .and .u64 a0_0 4294967295) * 4294967295)))) < (IntKind.u64.wrap ((Go.bits .and .u64 a0_0 4294967295) * 4294967295)) then ((gold_Of.f (IntKind.u64.wrap ((IntKind.u64.wrap ((IntKind.u64.wrap ((IntKind.u64.wrap (a0_1 - (a0_0 / 4294967296))) - 4294967295)) + (IntKind.u64.wrap ((Go.bits .and .u64 a0_0 4294967295) * 4294967295)))) + 4294967295))).bind fun t110 => (some t110)) else ((gold_Of.f (IntKind.u64.wrap ((IntKind.u64.wrap ((IntKind.u64.wrap (a0_1 - (a0_0 / 4294967296))) - 4294967295)) + (IntKind.u64.wrap ((Go.bits .and .u64 a0_0 4294967295) * 4294967295))))).bind fun t111 => (some t111))) else (if (IntKind.u64.wrap ((IntKind.u64.wrap (a0_1 - (a0_0 / 4294967296))) + (IntKind.u64.wrap ((Go.bits .and .u64 a0_0 4294967295) * 4294967295)))) < (IntKind.u64.wrap ((Go.bits .and .u64 a0_0 4294967295) * 4294967295)) then ((gold_Of.f (IntKind.u64.wrap ((IntKind.u64.wrap ((IntKind.u64.wrap (a0_1 - (a0_0 / 4294967296))) + (IntKind.u64.wrap ((Go.bits .and .u64 a0_0 4294967295) * 4294967295)))) + 4294967295))).bind fun t112 => (some t112)) else ((gold_Of.f (IntKind.u64.wrap ((IntKind.u64.wrap (a0_1 - (a0_0 / 4294967296))) + (IntKind.u64.wrap ((Go.bits .and .u64 a0_0 4294967295) * 4294967295))))).bind fun t113 => (some t113)))) = some r := h
  clear h
  by_cases c2 : a0_1 < (a0_0 / 4294967296)
  · rw [if_pos c2] at H
    have c2b0 : decide (a0_1 < (a0_0 / 4294967296)) = true := decide_eq_true c2
    clear c2
    by_cases c3 : (IntKind.u64.wrap ((IntKind.u64.wrap ((IntKind.u64.wrap (a0_1 - (a0_0 / 4294967296))) - 4294967295)) + (IntKind.u64.wrap ((Go.bits .and .u64 a0_0 4294967295) * 4294967295)))) < (IntKind.u64.wrap ((Go.bits .and .u64 a0_0 4294967295) * 4294967295))
    · rw [if_pos c3] at H
      have c3b0 : decide ((IntKind.u64.wrap ((IntKind.u64.wrap ((IntKind.u64.wrap (a0_1 - (a0_0 / 4294967296))) - 4294967295)) + (IntKind.u64.wrap ((Go.bits .and .u64 a0_0 4294967295) * 4294967295)))) < (IntKind.u64.wrap ((Go.bits .and .u64 a0_0 4294967295) * 4294967295))) = true := decide_eq_true c3
      clear c3
      replace H := Option.bind_eq_some_iff.mp H
      obtain ⟨t110, A40, H⟩ := H
      replace H : (some t110) = some r := H
      have A4 := Aside0.mk A40
      clear A40
      obtain rfl := Option.some.inj H
      go_enter Try.func56, Try.ntmps56
      go_wp2_with (first | ((with_reducible refine gate_dst (N := 1) rfl ?_); refine box_event ?hg (N := 1) ?hd (cs := #[.int .u64 a0_0, .int .u64 a0_1]) (t := 57) ?hr ?_; (case hd => rfl); (case hg => rfl); (case hr => first | (go_simp; done) | (go_simp; rfl)); intro gb109 hg w5 hbox hb; have n0_ := Aside0.mk (below_step (by repeat (first | (with_reducible first | exact HB.out | apply below_alloc | apply pw_below_drewN | apply below_drew1) | exact HB.out)) hb); have n1_ := Aside0.mk (hbox); have n2_ := Aside0.mk ((by rw [hg]; exact (below_size (by repeat (first | (with_reducible first | exact HB.out | apply below_alloc | apply pw_below_drewN | apply below_drew1) | exact HB.out))) : w.heap.size ≤ gb109)); have n3_ := Aside0.mk ((by rw [hg]; exact (below_size (by repeat (first | (with_reducible first | exact HB.out | apply below_alloc | apply pw_below_drewN | apply below_drew1) | exact HB.out))) : w.heap.size ≤ gb109)); clear HB; have HB := n0_; have BK109 := n1_; have GW109 := n2_; have GE109 := n3_; clear n0_ n1_ n2_ n3_; clear hb hbox hg; have hcz6_0 : w5.cell? ⟨gb109, 0, none⟩ = some (.int .u64 a0_0) := (blk_cell BK109.out 0).trans rfl; have hcz6_1 : w5.cell? ⟨gb109, 1, none⟩ = some (.int .u64 a0_1) := (blk_cell BK109.out 1).trans rfl; have hfz6_0 := blk_frozen BK109.out 0; have hfz6_1 := blk_frozen BK109.out 1) | (go_at_call 43; (with_reducible refine (gold_Of.calls (IntKind.u64.wrap ((IntKind.u64.wrap ((IntKind.u64.wrap ((IntKind.u64.wrap (a0_1 - (a0_0 / 4294967296))) - 4294967295)) + (IntKind.u64.wrap ((Go.bits .and .u64 a0_0 4294967295) * 4294967295)))) + 4294967295)) t110 _ A4.out).mono ?_); rintro e w' ⟨rfl, ⟨nd, rfl⟩⟩; (try first | exact ⟨rfl, _, World.drewN_drewN _ _ _⟩ | exact ⟨rfl, _, Eq.trans (World.drewN_drewN _ _ _) (congrArg (World.drewN _) (Nat.add_assoc _ _ _))⟩)))
      repeat (go_quiet (first | ((with_reducible refine gate_dst (N := 1) rfl ?_); refine box_event ?hg (N := 1) ?hd (cs := #[.int .u64 a0_0, .int .u64 a0_1]) (t := 57) ?hr ?_; (case hd => rfl); (case hg => rfl); (case hr => first | (go_simp; done) | (go_simp; rfl)); intro gb109 hg w5 hbox hb; have n0_ := Aside0.mk (below_step (by repeat (first | (with_reducible first | exact HB.out | apply below_alloc | apply pw_below_drewN | apply below_drew1) | exact HB.out)) hb); have n1_ := Aside0.mk (hbox); have n2_ := Aside0.mk ((by rw [hg]; exact (below_size (by repeat (first | (with_reducible first | exact HB.out | apply below_alloc | apply pw_below_drewN | apply below_drew1) | exact HB.out))) : w.heap.size ≤ gb109)); have n3_ := Aside0.mk ((by rw [hg]; exact (below_size (by repeat (first | (with_reducible first | exact HB.out | apply below_alloc | apply pw_below_drewN | apply below_drew1) | exact HB.out))) : w.heap.size ≤ gb109)); clear HB; have HB := n0_; have BK109 := n1_; have GW109 := n2_; have GE109 := n3_; clear n0_ n1_ n2_ n3_; clear hb hbox hg; have hcz6_0 : w5.cell? ⟨gb109, 0, none⟩ = some (.int .u64 a0_0) := (blk_cell BK109.out 0).trans rfl; have hcz6_1 : w5.cell? ⟨gb109, 1, none⟩ = some (.int .u64 a0_1) := (blk_cell BK109.out 1).trans rfl; have hfz6_0 := blk_frozen BK109.out 0; have hfz6_1 := blk_frozen BK109.out 1) | (go_at_call 43; (with_reducible refine (gold_Of.calls (IntKind.u64.wrap ((IntKind.u64.wrap ((IntKind.u64.wrap ((IntKind.u64.wrap (a0_1 - (a0_0 / 4294967296))) - 4294967295)) + (IntKind.u64.wrap ((Go.bits .and .u64 a0_0 4294967295) * 4294967295)))) + 4294967295)) t110 _ A4.out).mono ?_); rintro e w' ⟨rfl, ⟨nd, rfl⟩⟩; (try first | exact ⟨rfl, _, World.drewN_drewN _ _ _⟩ | exact ⟨rfl, _, Eq.trans (World.drewN_drewN _ _ _) (congrArg (World.drewN _) (Nat.add_assoc _ _ _))⟩))); try go_wp2_with (first | ((with_reducible refine gate_dst (N := 1) rfl ?_); refine box_event ?hg (N := 1) ?hd (cs := #[.int .u64 a0_0, .int .u64 a0_1]) (t := 57) ?hr ?_; (case hd => rfl); (case hg => rfl); (case hr => first | (go_simp; done) | (go_simp; rfl)); intro gb109 hg w5 hbox hb; have n0_ := Aside0.mk (below_step (by repeat (first | (with_reducible first | exact HB.out | apply below_alloc | apply pw_below_drewN | apply below_drew1) | exact HB.out)) hb); have n1_ := Aside0.mk (hbox); have n2_ := Aside0.mk ((by rw [hg]; exact (below_size (by repeat (first | (with_reducible first | exact HB.out | apply below_alloc | apply pw_below_drewN | apply below_drew1) | exact HB.out))) : w.heap.size ≤ gb109)); have n3_ := Aside0.mk ((by rw [hg]; exact (below_size (by repeat (first | (with_reducible first | exact HB.out | apply below_alloc | apply pw_below_drewN | apply below_drew1) | exact HB.out))) : w.heap.size ≤ gb109)); clear HB; have HB := n0_; have BK109 := n1_; have GW109 := n2_; have GE109 := n3_; clear n0_ n1_ n2_ n3_; clear hb hbox hg; have hcz6_0 : w5.cell? ⟨gb109, 0, none⟩ = some (.int .u64 a0_0) := (blk_cell BK109.out 0).trans rfl; have hcz6_1 : w5.cell? ⟨gb109, 1, none⟩ = some (.int .u64 a0_1) := (blk_cell BK109.out 1).trans rfl; have hfz6_0 := blk_frozen BK109.out 0; have hfz6_1 := blk_frozen BK109.out 1) | (go_at_call 43; (with_reducible refine (gold_Of.calls (IntKind.u64.wrap ((IntKind.u64.wrap ((IntKind.u64.wrap ((IntKind.u64.wrap (a0_1 - (a0_0 / 4294967296))) - 4294967295)) + (IntKind.u64.wrap ((Go.bits .and .u64 a0_0 4294967295) * 4294967295)))) + 4294967295)) t110 _ A4.out).mono ?_); rintro e w' ⟨rfl, ⟨nd, rfl⟩⟩; (try first | exact ⟨rfl, _, World.drewN_drewN _ _ _⟩ | exact ⟨rfl, _, Eq.trans (World.drewN_drewN _ _ _) (congrArg (World.drewN _) (Nat.add_assoc _ _ _))⟩))))
      go_ret
      exact ⟨by first | rfl | (simp [errW_none, errW_some] <;> rfl) | (simp [*, errW_none, errW_some] <;> rfl), by repeat (first | (with_reducible first | exact HB.out | apply below_alloc | apply pw_below_drewN | apply below_drew1 | refine below_set ?_ GE109.out) | exact HB.out)⟩
    · rw [if_neg c3] at H
      have c3b0 : decide ((IntKind.u64.wrap ((IntKind.u64.wrap ((IntKind.u64.wrap (a0_1 - (a0_0 / 4294967296))) - 4294967295)) + (IntKind.u64.wrap ((Go.bits .and .u64 a0_0 4294967295) * 4294967295)))) < (IntKind.u64.wrap ((Go.bits .and .u64 a0_0 4294967295) * 4294967295))) = false := decide_eq_false c3
      clear c3
      replace H := Option.bind_eq_some_iff.mp H
      obtain ⟨t111, A70, H⟩ := H
      replace H : (some t111) = some r := H
      have A7 := Aside0.mk A70
      clear A70
      obtain rfl := Option.some.inj H
      go_enter Try.func56, Try.ntmps56
      go_wp2_with (first | ((with_reducible refine gate_dst (N := 1) rfl ?_); refine box_event ?hg (N := 1) ?hd (cs := #[.int .u64 a0_0, .int .u64 a0_1]) (t := 57) ?hr ?_; (case hd => rfl); (case hg => rfl); (case hr => first | (go_simp; done) | (go_simp; rfl)); intro gb109 hg w8 hbox hb; have n0_ := Aside0.mk (below_step (by repeat (first | (with_reducible first | exact HB.out | apply below_alloc | apply pw_below_drewN | apply below_drew1) | exact HB.out)) hb); have n1_ := Aside0.mk (hbox); have n2_ := Aside0.mk ((by rw [hg]; exact (below_size (by repeat (first | (with_reducible first | exact HB.out | apply below_alloc | apply pw_below_drewN | apply below_drew1) | exact HB.out))) : w.heap.size ≤ gb109)); have n3_ := Aside0.mk ((by rw [hg]; exact (below_size (by repeat (first | (with_reducible first | exact HB.out | apply below_alloc | apply pw_below_drewN | apply below_drew1) | exact HB.out))) : w.heap.size ≤ gb109)); clear HB; have HB := n0_; have BK109 := n1_; have GW109 := n2_; have GE109 := n3_; clear n0_ n1_ n2_ n3_; clear hb hbox hg; have hcz9_0 : w8.cell? ⟨gb109, 0, none⟩ = some (.int .u64 a0_0) := (blk_cell BK109.out 0).trans rfl; have hcz9_1 : w8.cell? ⟨gb109, 1, none⟩ = some (.int .u64 a0_1) := (blk_cell BK109.out 1).trans rfl; have hfz9_0 := blk_frozen BK109.out 0; have hfz9_1 := blk_frozen BK109.out 1) | (go_at_call 43; (with_reducible refine (gold_Of.calls (IntKind.u64.wrap ((IntKind.u64.wrap ((IntKind.u64.wrap (a0_1 - (a0_0 / 4294967296))) - 4294967295)) + (IntKind.u64.wrap ((Go.bits .and .u64 a0_0 4294967295) * 4294967295)))) t111 _ A7.out).mono ?_); rintro e w' ⟨rfl, ⟨nd, rfl⟩⟩; (try first | exact ⟨rfl, _, World.drewN_drewN _ _ _⟩ | exact ⟨rfl, _, Eq.trans (World.drewN_drewN _ _ _) (congrArg (World.drewN _) (Nat.add_assoc _ _ _))⟩)))
      repeat (go_quiet (first | ((with_reducible refine gate_dst (N := 1) rfl ?_); refine box_event ?hg (N := 1) ?hd (cs := #[.int .u64 a0_0, .int .u64 a0_1]) (t := 57) ?hr ?_; (case hd => rfl); (case hg => rfl); (case hr => first | (go_simp; done) | (go_simp; rfl)); intro gb109 hg w8 hbox hb; have n0_ := Aside0.mk (below_step (by repeat (first | (with_reducible first | exact HB.out | apply below_alloc | apply pw_below_drewN | apply below_drew1) | exact HB.out)) hb); have n1_ := Aside0.mk (hbox); have n2_ := Aside0.mk ((by rw [hg]; exact (below_size (by repeat (first | (with_reducible first | exact HB.out | apply below_alloc | apply pw_below_drewN | apply below_drew1) | exact HB.out))) : w.heap.size ≤ gb109)); have n3_ := Aside0.mk ((by rw [hg]; exact (below_size (by repeat (first | (with_reducible first | exact HB.out | apply below_alloc | apply pw_below_drewN | apply below_drew1) | exact HB.out))) : w.heap.size ≤ gb109)); clear HB; have HB := n0_; have BK109 := n1_; have GW109 := n2_; have GE109 := n3_; clear n0_ n1_ n2_ n3_; clear hb hbox hg; have hcz9_0 : w8.cell? ⟨gb109, 0, none⟩ = some (.int .u64 a0_0) := (blk_cell BK109.out 0).trans rfl; have hcz9_1 : w8.cell? ⟨gb109, 1, none⟩ = some (.int .u64 a0_1) := (blk_cell BK109.out 1).trans rfl; have hfz9_0 := blk_frozen BK109.out 0; have hfz9_1 := blk_frozen BK109.out 1) | (go_at_call 43; (with_reducible refine (gold_Of.calls (IntKind.u64.wrap ((IntKind.u64.wrap ((IntKind.u64.wrap (a0_1 - (a0_0 / 4294967296))) - 4294967295)) + (IntKind.u64.wrap ((Go.bits .and .u64 a0_0 4294967295) * 4294967295)))) t111 _ A7.out).mono ?_); rintro e w' ⟨rfl, ⟨nd, rfl⟩⟩; (try first | exact ⟨rfl, _, World.drewN_drewN _ _ _⟩ | exact ⟨rfl, _, Eq.trans (World.drewN_drewN _ _ _) (congrArg (World.drewN _) (Nat.add_assoc _ _ _))⟩))); try go_wp2_with (first | ((with_reducible refine gate_dst (N := 1) rfl ?_); refine box_event ?hg (N := 1) ?hd (cs := #[.int .u64 a0_0, .int .u64 a0_1]) (t := 57) ?hr ?_; (case hd => rfl); (case hg => rfl); (case hr => first | (go_simp; done) | (go_simp; rfl)); intro gb109 hg w8 hbox hb; have n0_ := Aside0.mk (below_step (by repeat (first | (with_reducible first | exact HB.out | apply below_alloc | apply pw_below_drewN | apply below_drew1) | exact HB.out)) hb); have n1_ := Aside0.mk (hbox); have n2_ := Aside0.mk ((by rw [hg]; exact (below_size (by repeat (first | (with_reducible first | exact HB.out | apply below_alloc | apply pw_below_drewN | apply below_drew1) | exact HB.out))) : w.heap.size ≤ gb109)); have n3_ := Aside0.mk ((by rw [hg]; exact (below_size (by repeat (first | (with_reducible first | exact HB.out | apply below_alloc | apply pw_below_drewN | apply below_drew1) | exact HB.out))) : w.heap.size ≤ gb109)); clear HB; have HB := n0_; have BK109 := n1_; have GW109 := n2_; have GE109 := n3_; clear n0_ n1_ n2_ n3_; clear hb hbox hg; have hcz9_0 : w8.cell? ⟨gb109, 0, none⟩ = some (.int .u64 a0_0) := (blk_cell BK109.out 0).trans rfl; have hcz9_1 : w8.cell? ⟨gb109, 1, none⟩ = some (.int .u64 a0_1) := (blk_cell BK109.out 1).trans rfl; have hfz9_0 := blk_frozen BK109.out 0; have hfz9_1 := blk_frozen BK109.out 1) | (go_at_call 43; (with_reducible refine (gold_Of.calls (IntKind.u64.wrap ((IntKind.u64.wrap ((IntKind.u64.wrap (a0_1 - (a0_0 / 4294967296))) - 4294967295)) + (IntKind.u64.wrap ((Go.bits .and .u64 a0_0 4294967295) * 4294967295)))) t111 _ A7.out).mono ?_); rintro e w' ⟨rfl, ⟨nd, rfl⟩⟩; (try first | exact ⟨rfl, _, World.drewN_drewN _ _ _⟩ | exact ⟨rfl, _, Eq.trans (World.drewN_drewN _ _ _) (congrArg (World.drewN _) (Nat.add_assoc _ _ _))⟩))))
      go_ret
      exact ⟨by first | rfl | (simp [errW_none, errW_some] <;> rfl) | (simp [*, errW_none, errW_some] <;> rfl), by repeat (first | (with_reducible first | exact HB.out | apply below_alloc | apply pw_below_drewN | apply below_drew1 | refine below_set ?_ GE109.out) | exact HB.out)⟩
  · rw [if_neg c2] at H
    have c2b0 : decide (a0_1 < (a0_0 / 4294967296)) = false := decide_eq_false c2
    clear c2
    by_cases c10 : (IntKind.u64.wrap ((IntKind.u64.wrap (a0_1 - (a0_0 / 4294967296))) + (IntKind.u64.wrap ((Go.bits .and .u64 a0_0 4294967295) * 4294967295)))) < (IntKind.u64.wrap ((Go.bits .and .u64 a0_0 4294967295) * 4294967295))
    · rw [if_pos c10] at H
      have c10b0 : decide ((IntKind.u64.wrap ((IntKind.u64.wrap (a0_1 - (a0_0 / 4294967296))) + (IntKind.u64.wrap ((Go.bits .and .u64 a0_0 4294967295) * 4294967295)))) < (IntKind.u64.wrap ((Go.bits .and .u64 a0_0 4294967295) * 4294967295))) = true := decide_eq_true c10
      clear c10
      replace H := Option.bind_eq_some_iff.mp H
      obtain ⟨t112, A110, H⟩ := H
      replace H : (some t112) = some r := H
      have A11 := Aside0.mk A110
      clear A110
      obtain rfl := Option.some.inj H
      go_enter Try.func56, Try.ntmps56
      go_wp2_with (first | ((with_reducible refine gate_dst (N := 1) rfl ?_); refine box_event ?hg (N := 1) ?hd (cs := #[.int .u64 a0_0, .int .u64 a0_1]) (t := 57) ?hr ?_; (case hd => rfl); (case hg => rfl); (case hr => first | (go_simp; done) | (go_simp; rfl)); intro gb109 hg w12 hbox hb; have n0_ := Aside0.mk (below_step (by repeat (first | (with_reducible first | exact HB.out | apply below_alloc | apply pw_below_drewN | apply below_drew1) | exact HB.out)) hb); have n1_ := Aside0.mk (hbox); have n2_ := Aside0.mk ((by rw [hg]; exact (below_size (by repeat (first | (with_reducible first | exact HB.out | apply below_alloc | apply pw_below_drewN | apply below_drew1) | exact HB.out))) : w.heap.size ≤ gb109)); have n3_ := Aside0.mk ((by rw [hg]; exact (below_size (by repeat (first | (with_reducible first | exact HB.out | apply below_alloc | apply pw_below_drewN | apply below_drew1) | exact HB.out))) : w.heap.size ≤ gb109)); clear HB; have HB := n0_; have BK109 := n1_; have GW109 := n2_; have GE109 := n3_; clear n0_ n1_ n2_ n3_; clear hb hbox hg; have hcz13_0 : w12.cell? ⟨gb109, 0, none⟩ = some (.int .u64 a0_0) := (blk_cell BK109.out 0).trans rfl; have hcz13_1 : w12.cell? ⟨gb109, 1, none⟩ = some (.int .u64 a0_1) := (blk_cell BK109.out 1).trans rfl; have hfz13_0 := blk_frozen BK109.out 0; have hfz13_1 := blk_frozen BK109.out 1) | (go_at_call 43; (with_reducible refine (gold_Of.calls (IntKind.u64.wrap ((IntKind.u64.wrap ((IntKind.u64.wrap (a0_1 - (a0_0 / 4294967296))) + (IntKind.u64.wrap ((Go.bits .and .u64 a0_0 4294967295) * 4294967295)))) + 4294967295)) t112 _ A11.out).mono ?_); rintro e w' ⟨rfl, ⟨nd, rfl⟩⟩; (try first | exact ⟨rfl, _, World.drewN_drewN _ _ _⟩ | exact ⟨rfl, _, Eq.trans (World.drewN_drewN _ _ _) (congrArg (World.drewN _) (Nat.add_assoc _ _ _))⟩)))
      repeat (go_quiet (first | ((with_reducible refine gate_dst (N := 1) rfl ?_); refine box_event ?hg (N := 1) ?hd (cs := #[.int .u64 a0_0, .int .u64 a0_1]) (t := 57) ?hr ?_; (case hd => rfl); (case hg => rfl); (case hr => first | (go_simp; done) | (go_simp; rfl)); intro gb109 hg w12 hbox hb; have n0_ := Aside0.mk (below_step (by repeat (first | (with_reducible first | exact HB.out | apply below_alloc | apply pw_below_drewN | apply below_drew1) | exact HB.out)) hb); have n1_ := Aside0.mk (hbox); have n2_ := Aside0.mk ((by rw [hg]; exact (below_size (by repeat (first | (with_reducible first | exact HB.out | apply below_alloc | apply pw_below_drewN | apply below_drew1) | exact HB.out))) : w.heap.size ≤ gb109)); have n3_ := Aside0.mk ((by rw [hg]; exact (below_size (by repeat (first | (with_reducible first | exact HB.out | apply below_alloc | apply pw_below_drewN | apply below_drew1) | exact HB.out))) : w.heap.size ≤ gb109)); clear HB; have HB := n0_; have BK109 := n1_; have GW109 := n2_; have GE109 := n3_; clear n0_ n1_ n2_ n3_; clear hb hbox hg; have hcz13_0 : w12.cell? ⟨gb109, 0, none⟩ = some (.int .u64 a0_0) := (blk_cell BK109.out 0).trans rfl; have hcz13_1 : w12.cell? ⟨gb109, 1, none⟩ = some (.int .u64 a0_1) := (blk_cell BK109.out 1).trans rfl; have hfz13_0 := blk_frozen BK109.out 0; have hfz13_1 := blk_frozen BK109.out 1) | (go_at_call 43; (with_reducible refine (gold_Of.calls (IntKind.u64.wrap ((IntKind.u64.wrap ((IntKind.u64.wrap (a0_1 - (a0_0 / 4294967296))) + (IntKind.u64.wrap ((Go.bits .and .u64 a0_0 4294967295) * 4294967295)))) + 4294967295)) t112 _ A11.out).mono ?_); rintro e w' ⟨rfl, ⟨nd, rfl⟩⟩; (try first | exact ⟨rfl, _, World.drewN_drewN _ _ _⟩ | exact ⟨rfl, _, Eq.trans (World.drewN_drewN _ _ _) (congrArg (World.drewN _) (Nat.add_assoc _ _ _))⟩))); try go_wp2_with (first | ((with_reducible refine gate_dst (N := 1) rfl ?_); refine box_event ?hg (N := 1) ?hd (cs := #[.int .u64 a0_0, .int .u64 a0_1]) (t := 57) ?hr ?_; (case hd => rfl); (case hg => rfl); (case hr => first | (go_simp; done) | (go_simp; rfl)); intro gb109 hg w12 hbox hb; have n0_ := Aside0.mk (below_step (by repeat (first | (with_reducible first | exact HB.out | apply below_alloc | apply pw_below_drewN | apply below_drew1) | exact HB.out)) hb); have n1_ := Aside0.mk (hbox); have n2_ := Aside0.mk ((by rw [hg]; exact (below_size (by repeat (first | (with_reducible first | exact HB.out | apply below_alloc | apply pw_below_drewN | apply below_drew1) | exact HB.out))) : w.heap.size ≤ gb109)); have n3_ := Aside0.mk ((by rw [hg]; exact (below_size (by repeat (first | (with_reducible first | exact HB.out | apply below_alloc | apply pw_below_drewN | apply below_drew1) | exact HB.out))) : w.heap.size ≤ gb109)); clear HB; have HB := n0_; have BK109 := n1_; have GW109 := n2_; have GE109 := n3_; clear n0_ n1_ n2_ n3_; clear hb hbox hg; have hcz13_0 : w12.cell? ⟨gb109, 0, none⟩ = some (.int .u64 a0_0) := (blk_cell BK109.out 0).trans rfl; have hcz13_1 : w12.cell? ⟨gb109, 1, none⟩ = some (.int .u64 a0_1) := (blk_cell BK109.out 1).trans rfl; have hfz13_0 := blk_frozen BK109.out 0; have hfz13_1 := blk_frozen BK109.out 1) | (go_at_call 43; (with_reducible refine (gold_Of.calls (IntKind.u64.wrap ((IntKind.u64.wrap ((IntKind.u64.wrap (a0_1 - (a0_0 / 4294967296))) + (IntKind.u64.wrap ((Go.bits .and .u64 a0_0 4294967295) * 4294967295)))) + 4294967295)) t112 _ A11.out).mono ?_); rintro e w' ⟨rfl, ⟨nd, rfl⟩⟩; (try first | exact ⟨rfl, _, World.drewN_drewN _ _ _⟩ | exact ⟨rfl, _, Eq.trans (World.drewN_drewN _ _ _) (congrArg (World.drewN _) (Nat.add_assoc _ _ _))⟩))))
      go_ret
      exact ⟨by first | rfl | (simp [errW_none, errW_some] <;> rfl) | (simp [*, errW_none, errW_some] <;> rfl), by repeat (first | (with_reducible first | exact HB.out | apply below_alloc | apply pw_below_drewN | apply below_drew1 | refine below_set ?_ GE109.out) | exact HB.out)⟩
    · rw [if_neg c10] at H
      have c10b0 : decide ((IntKind.u64.wrap ((IntKind.u64.wrap (a0_1 - (a0_0 / 4294967296))) + (IntKind.u64.wrap ((Go.bits .and .u64 a0_0 4294967295) * 4294967295)))) < (IntKind.u64.wrap ((Go.bits .and .u64 a0_0 4294967295) * 4294967295))) = false := decide_eq_false c10
      clear c10
      replace H := Option.bind_eq_some_iff.mp H
      obtain ⟨t113, A140, H⟩ := H
      replace H : (some t113) = some r := H
      have A14 := Aside0.mk A140
      clear A140
      obtain rfl := Option.some.inj H
      go_enter Try.func56, Try.ntmps56
      go_wp2_with (first | ((with_reducible refine gate_dst (N := 1) rfl ?_); refine box_event ?hg (N := 1) ?hd (cs := #[.int .u64 a0_0, .int .u64 a0_1]) (t := 57) ?hr ?_; (case hd => rfl); (case hg => rfl); (case hr => first | (go_simp; done) | (go_simp; rfl)); intro gb109 hg w15 hbox hb; have n0_ := Aside0.mk (below_step (by repeat (first | (with_reducible first | exact HB.out | apply below_alloc | apply pw_below_drewN | apply below_drew1) | exact HB.out)) hb); have n1_ := Aside0.mk (hbox); have n2_ := Aside0.mk ((by rw [hg]; exact (below_size (by repeat (first | (with_reducible first | exact HB.out | apply below_alloc | apply pw_below_drewN | apply below_drew1) | exact HB.out))) : w.heap.size ≤ gb109)); have n3_ := Aside0.mk ((by rw [hg]; exact (below_size (by repeat (first | (with_reducible first | exact HB.out | apply below_alloc | apply pw_below_drewN | apply below_drew1) | exact HB.out))) : w.heap.size ≤ gb109)); clear HB; have HB := n0_; have BK109 := n1_; have GW109 := n2_; have GE109 := n3_; clear n0_ n1_ n2_ n3_; clear hb hbox hg; have hcz16_0 : w15.cell? ⟨gb109, 0, none⟩ = some (.int .u64 a0_0) := (blk_cell BK109.out 0).trans rfl; have hcz16_1 : w15.cell? ⟨gb109, 1, none⟩ = some (.int .u64 a0_1) := (blk_cell BK109.out 1).trans rfl; have hfz16_0 := blk_frozen BK109.out 0; have hfz16_1 := blk_frozen BK109.out 1) | (go_at_call 43; (with_reducible refine (gold_Of.calls (IntKind.u64.wrap ((IntKind.u64.wrap (a0_1 - (a0_0 / 4294967296))) + (IntKind.u64.wrap ((Go.bits .and .u64 a0_0 4294967295) * 4294967295)))) t113 _ A14.out).mono ?_); rintro e w' ⟨rfl, ⟨nd, rfl⟩⟩; (try first | exact ⟨rfl, _, World.drewN_drewN _ _ _⟩ | exact ⟨rfl, _, Eq.trans (World.drewN_drewN _ _ _) (congrArg (World.drewN _) (Nat.add_assoc _ _ _))⟩)))
      repeat (go_quiet (first | ((with_reducible refine gate_dst (N := 1) rfl ?_); refine box_event ?hg (N := 1) ?hd (cs := #[.int .u64 a0_0, .int .u64 a0_1]) (t := 57) ?hr ?_; (case hd => rfl); (case hg => rfl); (case hr => first | (go_simp; done) | (go_simp; rfl)); intro gb109 hg w15 hbox hb; have n0_ := Aside0.mk (below_step (by repeat (first | (with_reducible first | exact HB.out | apply below_alloc | apply pw_below_drewN | apply below_drew1) | exact HB.out)) hb); have n1_ := Aside0.mk (hbox); have n2_ := Aside0.mk ((by rw [hg]; exact (below_size (by repeat (first | (with_reducible first | exact HB.out | apply below_alloc | apply pw_below_drewN | apply below_drew1) | exact HB.out))) : w.heap.size ≤ gb109)); have n3_ := Aside0.mk ((by rw [hg]; exact (below_size (by repeat (first | (with_reducible first | exact HB.out | apply below_alloc | apply pw_below_drewN | apply below_drew1) | exact HB.out))) : w.heap.size ≤ gb109)); clear HB; have HB := n0_; have BK109 := n1_; have GW109 := n2_; have GE109 := n3_; clear n0_ n1_ n2_ n3_; clear hb hbox hg; have hcz16_0 : w15.cell? ⟨gb109, 0, none⟩ = some (.int .u64 a0_0) := (blk_cell BK109.out 0).trans rfl; have hcz16_1 : w15.cell? ⟨gb109, 1, none⟩ = some (.int .u64 a0_1) := (blk_cell BK109.out 1).trans rfl; have hfz16_0 := blk_frozen BK109.out 0; have hfz16_1 := blk_frozen BK109.out 1) | (go_at_call 43; (with_reducible refine (gold_Of.calls (IntKind.u64.wrap ((IntKind.u64.wrap (a0_1 - (a0_0 / 4294967296))) + (IntKind.u64.wrap ((Go.bits .and .u64 a0_0 4294967295) * 4294967295)))) t113 _ A14.out).mono ?_); rintro e w' ⟨rfl, ⟨nd, rfl⟩⟩; (try first | exact ⟨rfl, _, World.drewN_drewN _ _ _⟩ | exact ⟨rfl, _, Eq.trans (World.drewN_drewN _ _ _) (congrArg (World.drewN _) (Nat.add_assoc _ _ _))⟩))); try go_wp2_with (first | ((with_reducible refine gate_dst (N := 1) rfl ?_); refine box_event ?hg (N := 1) ?hd (cs := #[.int .u64 a0_0, .int .u64 a0_1]) (t := 57) ?hr ?_; (case hd => rfl); (case hg => rfl); (case hr => first | (go_simp; done) | (go_simp; rfl)); intro gb109 hg w15 hbox hb; have n0_ := Aside0.mk (below_step (by repeat (first | (with_reducible first | exact HB.out | apply below_alloc | apply pw_below_drewN | apply below_drew1) | exact HB.out)) hb); have n1_ := Aside0.mk (hbox); have n2_ := Aside0.mk ((by rw [hg]; exact (below_size (by repeat (first | (with_reducible first | exact HB.out | apply below_alloc | apply pw_below_drewN | apply below_drew1) | exact HB.out))) : w.heap.size ≤ gb109)); have n3_ := Aside0.mk ((by rw [hg]; exact (below_size (by repeat (first | (with_reducible first | exact HB.out | apply below_alloc | apply pw_below_drewN | apply below_drew1) | exact HB.out))) : w.heap.size ≤ gb109)); clear HB; have HB := n0_; have BK109 := n1_; have GW109 := n2_; have GE109 := n3_; clear n0_ n1_ n2_ n3_; clear hb hbox hg; have hcz16_0 : w15.cell? ⟨gb109, 0, none⟩ = some (.int .u64 a0_0) := (blk_cell BK109.out 0).trans rfl; have hcz16_1 : w15.cell? ⟨gb109, 1, none⟩ = some (.int .u64 a0_1) := (blk_cell BK109.out 1).trans rfl; have hfz16_0 := blk_frozen BK109.out 0; have hfz16_1 := blk_frozen BK109.out 1) | (go_at_call 43; (with_reducible refine (gold_Of.calls (IntKind.u64.wrap ((IntKind.u64.wrap (a0_1 - (a0_0 / 4294967296))) + (IntKind.u64.wrap ((Go.bits .and .u64 a0_0 4294967295) * 4294967295)))) t113 _ A14.out).mono ?_); rintro e w' ⟨rfl, ⟨nd, rfl⟩⟩; (try first | exact ⟨rfl, _, World.drewN_drewN _ _ _⟩ | exact ⟨rfl, _, Eq.trans (World.drewN_drewN _ _ _) (congrArg (World.drewN _) (Nat.add_assoc _ _ _))⟩))))
      go_ret
      exact ⟨by first | rfl | (simp [errW_none, errW_some] <;> rfl) | (simp [*, errW_none, errW_some] <;> rfl), by repeat (first | (with_reducible first | exact HB.out | apply below_alloc | apply pw_below_drewN | apply below_drew1 | refine below_set ?_ GE109.out) | exact HB.out)⟩

/-! ### bits_Mul64: function 74 -/
def bits_Mul64.f (a0 : Int) (a1 : Int) : Option (Int × Int) := some (IntKind.u64.wrap ((IntKind.u64.wrap ((IntKind.u64.wrap ((a0 / 4294967296) * (a1 / 4294967296))) + ((IntKind.u64.wrap ((IntKind.u64.wrap ((a0 / 4294967296) * (Go.bits .and .u64 a1 4294967295))) + ((IntKind.u64.wrap ((Go.bits .and .u64 a0 4294967295) * (Go.bits .and .u64 a1 4294967295))) / 4294967296))) / 4294967296))) + ((IntKind.u64.wrap ((Go.bits .and .u64 (IntKind.u64.wrap ((IntKind.u64.wrap ((a0 / 4294967296) * (Go.bits .and .u64 a1 4294967295))) + ((IntKind.u64.wrap ((Go.bits .and .u64 a0 4294967295) * (Go.bits .and .u64 a1 4294967295))) / 4294967296))) 4294967295) + (IntKind.u64.wrap ((Go.bits .and .u64 a0 4294967295) * (a1 / 4294967296))))) / 4294967296)), IntKind.u64.wrap (a0 * a1))
set_option maxHeartbeats 8000000 in
set_option maxRecDepth 100000 in
theorem bits_Mul64.calls (a0 : Int) (a1 : Int) (r1 : Int) (r2 : Int) (w : World) (h : bits_Mul64.f a0 a1 = some (r1, r2)) :
    Calls Try.prog 74 #[.int .u64 a0, .int .u64 a1] w fun e w' => e = .returned (.tuple #[.int .u64 r1, .int .u64 r2]) ∧ Drawn0 w w' := by
  have H : (some (IntKind.u64.wrap ((IntKind.u64.wrap ((IntKind.u64.wrap ((a0 / 4294967296) * (a1 / 4294967296))) + ((IntKind.u64.wrap ((IntKind.u64.wrap ((a0 / 4294967296) * (Go.bits .and .u64 a1 4294967295))) + ((IntKind.u64.wrap ((Go.bits .and .u64 a0 4294967295) * (Go.bits .and .u64 a1 4294967295))) / 4294967296))) / 4294967296))) + ((IntKind.u64.wrap ((Go.bits .and .u64 (IntKind.u64.wrap ((IntKind.u64.wrap ((a0 / 4294967296) * (Go.bits .and .u64 a1 4294967295))) + ((IntKind.u64.wrap ((Go.bits .and .u64 a0 4294967295) * (Go.bits .and .u64 a1 4294967295))) / 4294967296))) 4294967295) + (IntKind.u64.wrap ((Go.bits .and .u64 a0 4294967295) * (a1 / 4294967296))))) / 4294967296)), IntKind.u64.wrap (a0 * a1))) = some (r1, r2) := h
  clear h
  simp only [Option.some.injEq, Prod.mk.injEq] at H
  obtain ⟨rfl, rfl⟩ := H
  go_enter Try.func74, Try.ntmps74
  go_wp2
  go_ret2
  exact ⟨by first | rfl | (simp; done) | (simp [*]; done), by repeat (first | exact Drawn0.refl _ | apply Drawn0.step)⟩

/-! ### wide_Mul: function 70 -/
def wide_Mul.f (a0 : Int) (a1 : Int) : Option (Int × Int) := (bits_Mul64.f a0 a1).bind fun bt115 => (some (bt115.1, bt115.2))
set_option maxHeartbeats 8000000 in
set_option maxRecDepth 100000 in
theorem wide_Mul.calls (a0 : Int) (a1 : Int) (r1 : Int) (r2 : Int) (w : World) (h : wide_Mul.f a0 a1 = some (r1, r2)) :
    Calls Try.prog 70 #[.int .u64 a0, .int .u64 a1] w fun e w' => e = .returned (.agg #[.int .u64 r1, .int .u64 r2]) ∧ Below w.heap.size w w' := by
  have hu57 := Try.underlying57
  have HB := Aside0.mk (Below.refl w.heap.size w)
  have H : ((bits_Mul64.f a0 a1).bind fun bt115 => (some (bt115.1, bt115.2))) = some (r1, r2) := h
  clear h
  replace H := Option.bind_eq_some_iff.mp H
  obtain ⟨⟨t115, t116⟩, A30, H⟩ := H
  replace H : (some (t115, t116)) = some (r1, r2) := H
  have A3 := Aside0.mk A30
  clear A30
  simp only [Option.some.injEq, Prod.mk.injEq] at H
  obtain ⟨rfl, rfl⟩ := H
  go_enter Try.func70, Try.ntmps70
  go_wp2_with (first | ((with_reducible refine gate_dst (N := 4) rfl ?_); refine box_event ?hg (N := 4) ?hd (cs := #[.int .u64 0, .int .u64 0]) (t := 57) ?hr ?_; (case hd => rfl); (case hg => rfl); (case hr => first | (go_simp; done) | (go_simp; rfl)); intro gb114 hg w4 hbox hb; have n0_ := Aside0.mk (below_step (by repeat (first | (with_reducible first | exact HB.out | apply below_alloc | apply pw_below_drewN | apply below_drew1) | exact HB.out)) hb); have n1_ := Aside0.mk (hbox); have n2_ := Aside0.mk ((by rw [hg]; exact (below_size (by repeat (first | (with_reducible first | exact HB.out | apply below_alloc | apply pw_below_drewN | apply below_drew1) | exact HB.out))) : w.heap.size ≤ gb114)); have n3_ := Aside0.mk ((by rw [hg]; exact (below_size (by repeat (first | (with_reducible first | exact HB.out | apply below_alloc | apply pw_below_drewN | apply below_drew1) | exact HB.out))) : w.heap.size ≤ gb114)); clear HB; have HB := n0_; have BK114 := n1_; have GW114 := n2_; have GE114 := n3_; clear n0_ n1_ n2_ n3_; clear hb hbox hg) | ((with_reducible refine gate_callee (f := 74) rfl ?_); refine goesL_ (some 10) rfl rfl Try.func74 (by kernel_rfl) rfl #[.int .u64 a0, .int .u64 a1] rfl (by (try simp only [List.map_toArray, List.map_cons, List.map_nil]); first | done | rfl | (simp only [List.length_drop, List.length_take]; rfl)) ?_; (with_reducible refine (bits_Mul64.calls a0 a1 t115 t116 _ A3.out).mono ?_); rintro e w' ⟨rfl, ⟨nd, rfl⟩⟩; refine ⟨_, rfl, ?_⟩; (try (rw [drewN_self w4]; generalize hq_ : World.drewN w4 _ = w4; have n0_ : Aside0 (w4.heap[gb114]? = some (.cells #[.int .u64 0, .int .u64 0] 57 (0, 0))) := ⟨by rw [← hq_]; exact (by (with_reducible repeat (first | refine blk_drewN ?_ _ | refine blk_drew ?_ | refine blk_alloc ?_ _)); exact BK114.out)⟩; have n1_ : Aside0 (Below w.heap.size w w4) := ⟨by rw [← hq_]; exact (by repeat (first | (with_reducible first | exact HB.out | apply below_alloc | apply pw_below_drewN | apply below_drew1 | refine below_set ?_ GE114.out) | exact HB.out))⟩; clear BK114 HB hq_; have BK114 := n0_; have HB := n1_; clear n0_ n1_)); have hcz5_0 : w4.cell? ⟨gb114, 0, none⟩ = some (.int .u64 0) := (blk_cell BK114.out 0).trans rfl; have hcz5_1 : w4.cell? ⟨gb114, 1, none⟩ = some (.int .u64 0) := (blk_cell BK114.out 1).trans rfl; have hfz5_0 := blk_frozen BK114.out 0; have hfz5_1 := blk_frozen BK114.out 1))
  refine bodyPost_ret (results_cell_row rfl _ _ gb114 57 #[.int .u64 t115, .int .u64 t116] (0, 0) _ rfl (by (with_reducible repeat (first | refine blk_drewN ?_ _ | refine blk_drew ?_ | refine blk_alloc ?_ _)); refine blk_put (cs := #[.int .u64 t115, .int .u64 0]) ?_ 1 _ rfl; (with_reducible repeat (first | refine blk_drewN ?_ _ | refine blk_drew ?_ | refine blk_alloc ?_ _)); refine blk_put (cs := #[.int .u64 0, .int .u64 0]) ?_ 0 _ rfl; (with_reducible repeat (first | refine blk_drewN ?_ _ | refine blk_drew ?_ | refine blk_alloc ?_ _)); exact BK114.out) Try.underlying57 rfl (by kernel_rfl)) rfl ?_
  exact ⟨by first | rfl | (simp [errW_none, errW_some] <;> rfl) | (simp [*, errW_none, errW_some] <;> rfl), by repeat (first | (with_reducible first | exact HB.out | apply below_alloc | apply pw_below_drewN | apply below_drew1 | refine below_set ?_ GE114.out) | exact HB.out)⟩

/-! ### gold_Mul: function 64 -/
def gold_Mul.f (a0 : Int) (a1 : Int) : Option (Int) := (wide_Mul.f a0 a1).bind fun bt117 => ((gold_Reduce.f bt117.1 bt117.2).bind fun t119 => (some t119))
set_option maxHeartbeats 8000000 in
set_option maxRecDepth 100000 in
theorem gold_Mul.calls (a0 : Int) (a1 : Int) (r : Int) (w : World) (h : gold_Mul.f a0 a1 = some r) :
    Calls Try.prog 64 #[.int .u64 a0, .int .u64 a1] w fun e w' => e = .returned (.int .u64 r) ∧ Below w.heap.size w w' := by
  have HB := Aside0.mk (Below.refl w.heap.size w)
  have H : ((wide_Mul.f a0 a1).bind fun bt117 => ((gold_Reduce.f bt117.1 bt117.2).bind fun t119 => (some t119))) = some r := h
  clear h
  replace H := Option.bind_eq_some_iff.mp H
  obtain ⟨⟨t117, t118⟩, A30, H⟩ := H
  replace H : ((gold_Reduce.f t117 t118).bind fun t119 => (some t119)) = some r := H
  have A3 := Aside0.mk A30
  clear A30
  replace H := Option.bind_eq_some_iff.mp H
  obtain ⟨t119, A40, H⟩ := H
  replace H : (some t119) = some r := H
  have A4 := Aside0.mk A40
  clear A40
  obtain rfl := Option.some.inj H
  go_enter Try.func64, Try.ntmps64
  go_wp2_with (first | ((with_reducible refine gate_callee (f := 70) rfl ?_); refine goesL_ (some 7) rfl rfl Try.func70 (by kernel_rfl) rfl #[.int .u64 a0, .int .u64 a1] rfl (by (try simp only [List.map_toArray, List.map_cons, List.map_nil]); first | done | rfl | (simp only [List.length_drop, List.length_take]; rfl)) ?_; (with_reducible refine (wide_Mul.calls a0 a1 t117 t118 _ A3.out).mono ?_); rintro e w5 ⟨rfl, hb⟩; refine ⟨_, rfl, ?_⟩; have n0_ := Aside0.mk (below_step (by repeat (first | (with_reducible first | exact HB.out | apply below_alloc | apply pw_below_drewN | apply below_drew1) | exact HB.out)) hb); clear HB; have HB := n0_; clear n0_; (try clear hb); (try clear hb2); (try clear hk); (try clear hi)) | ((with_reducible refine gate_callee (f := 56) rfl ?_); refine goesL_ (some 8) rfl rfl Try.func56 (by kernel_rfl) rfl #[.agg #[.int .u64 t117, .int .u64 t118]] rfl (by (try simp only [List.map_toArray, List.map_cons, List.map_nil]); first | done | rfl | (simp only [List.length_drop, List.length_take]; rfl)) ?_; (with_reducible refine (gold_Reduce.calls t117 t118 t119 _ A4.out).mono ?_); rintro e w6 ⟨rfl, hb⟩; refine ⟨_, rfl, ?_⟩; have n0_ := Aside0.mk (below_step (by repeat (first | (with_reducible first | exact HB.out | apply below_alloc | apply pw_below_drewN | apply below_drew1) | exact HB.out)) hb); clear HB; have HB := n0_; clear n0_; (try clear hb); (try clear hb2); (try clear hk); (try clear hi)))
  go_ret
  exact ⟨by first | rfl | (simp [errW_none, errW_some] <;> rfl) | (simp [*, errW_none, errW_some] <;> rfl), by repeat (first | (with_reducible first | exact HB.out | apply below_alloc | apply pw_below_drewN | apply below_drew1) | exact HB.out)⟩

/-! ### gold_Pow: function 58 -/
def gold_Pow.l0 : Nat → Int → Int → Int → Option (Int)
  | 0, _, _, _ => none
  | k + 1, x1, x5, x6 => if x1 > 0 then (if (Go.bits .and .u64 x1 1) = 1 then ((gold_Mul.f x5 x6).bind fun t121 => ((gold_Mul.f x6 x6).bind fun t122 => (gold_Pow.l0 k (x1 / 2) t121 t122))) else ((gold_Mul.f x6 x6).bind fun t123 => (gold_Pow.l0 k (x1 / 2) x5 t123))) else (some x5)
def gold_Pow.f (k : Nat) (a0 : Int) (a1 : Int) : Option (Int) := (gold_Of.f a0).bind fun t120 => (gold_Pow.l0 k a1 1 t120)
theorem gold_Pow.mono_l : ∀ k, (∀ y0 y1 y2, LeO (gold_Pow.l0 k y0 y1 y2) (gold_Pow.l0 (k + 1) y0 y1 y2))
  | 0 => fun _ _ _ r h => by simp [gold_Pow.l0] at h
  | k + 1 => by
    have ih0 := gold_Pow.mono_l k
    · intro y0 y1 y2
      unfold gold_Pow.l0
      repeat' first
      | (with_reducible exact ih0 _ _ _)
      | (with_reducible exact LeO.refl _)
      | (with_reducible exact LeO.none _)
      | (with_reducible refine LeO.ite ?_ ?_)
      | (with_reducible refine LeO.bind ?_ (fun _ => ?_))
      | exact ih0 _ _ _
      | exact LeO.none _
      | refine LeO.ite ?_ ?_
      | refine LeO.bind ?_ (fun _ => ?_)
theorem gold_Pow.mono : ∀ a0 a1 k, LeO (gold_Pow.f k a0 a1) (gold_Pow.f (k + 1) a0 a1) := by
  intro a0 a1 k
  have ih0 := gold_Pow.mono_l k
  unfold gold_Pow.f
  repeat' first
      | (with_reducible exact ih0 _ _ _)
      | (with_reducible exact LeO.refl _)
      | (with_reducible exact LeO.none _)
      | (with_reducible refine LeO.ite ?_ ?_)
      | (with_reducible refine LeO.bind ?_ (fun _ => ?_))
      | exact ih0 _ _ _
      | exact LeO.none _
      | refine LeO.ite ?_ ?_
      | refine LeO.bind ?_ (fun _ => ?_)
set_option maxHeartbeats 8000000 in
set_option maxRecDepth 100000 in
theorem gold_Pow.calls (k : Nat) (a0 : Int) (a1 : Int) (r : Int) (w : World) (h : gold_Pow.f k a0 a1 = some r) :
    Calls Try.prog 58 #[.int .u64 a0, .int .u64 a1] w fun e w' => e = .returned (.int .u64 r) ∧ Below w.heap.size w w' := by
  have HB := Aside0.mk (Below.refl w.heap.size w)
  have H : ((gold_Of.f a0).bind fun t120 => (gold_Pow.l0 k a1 1 t120)) = some r := h
  clear h
  replace H := Option.bind_eq_some_iff.mp H
  obtain ⟨t120, A30, H⟩ := H
  replace H : (gold_Pow.l0 k a1 1 t120) = some r := H
  have A3 := Aside0.mk A30
  clear A30
  have H' := Aside0.mk H
  clear H
  go_enter Try.func58, Try.ntmps58
  go_wp2_with (first | ((with_reducible refine gate_callee (f := 43) rfl ?_); refine goesL_ (some 8) rfl rfl Try.func43 (by kernel_rfl) rfl #[.int .u64 a0] rfl (by (try simp only [List.map_toArray, List.map_cons, List.map_nil]); first | done | rfl | (simp only [List.length_drop, List.length_take]; rfl)) ?_; (with_reducible refine (gold_Of.calls a0 t120 _ A3.out).mono ?_); rintro e w' ⟨rfl, ⟨nd, rfl⟩⟩; refine ⟨_, rfl, ?_⟩))
  go_loopg [1, 5, 6] k (fun kq v1 v5 v6 w' => ∃ (x1_1 : Int) (x5_1 : Int) (x6_1 : Int), v1 = .int .u64 x1_1 ∧ v5 = .int .u64 x5_1 ∧ v6 = .int .u64 x6_1 ∧ Aside0 (gold_Pow.l0 kq x1_1 x5_1 x6_1 = some r) ∧ Aside0 (kq ≤ k) ∧ Aside0 (Below w.heap.size w w'))
  case atStart => exact ⟨(a1), (1), (t120), (by first | rfl | (simp; done) | (simp [*]; done)), (by first | rfl | (simp; done) | (simp [*]; done)), (by first | rfl | (simp; done) | (simp [*]; done)), H', ⟨Nat.le_refl _⟩, ⟨by repeat (first | (with_reducible first | exact HB.out | apply below_alloc | apply pw_below_drewN | apply below_drew1) | exact HB.out)⟩⟩
  case round =>
    clear H'
    try clear p2
    obtain ⟨x1_1, x5_1, x6_1, rfl, rfl, rfl, HA, HK1, HB⟩ := hrel
    cases gk with
    | zero => exact absurd HA.out (by simp [gold_Pow.l0])
    | succ k1 =>
      have H := HA.out
      clear HA
      simp only [gold_Pow.l0] at H
      by_cases c4 : x1_1 > 0
      · rw [if_pos c4] at H
        have c4b0 : decide (0 < x1_1) = true := decide_eq_true c4
        clear c4
        by_cases c5 : (Go.bits .and .u64 x1_1 1) = 1
        · rw [if_pos c5] at H
          have c5b0 : ((Go.bits .and .u64 x1_1 1) == 1) = true := beq_iff_eq.mpr c5
          have c5b1 : ((Go.bits .and .u64 x1_1 1) != 1) = false := bne_eq_false_iff_eq.mpr c5
          clear c5
          replace H := Option.bind_eq_some_iff.mp H
          obtain ⟨t121, A60, H⟩ := H
          replace H : ((gold_Mul.f x6_1 x6_1).bind fun t122 => (gold_Pow.l0 k1 (x1_1 / 2) t121 t122)) = some r := H
          have A6 := Aside0.mk A60
          clear A60
          replace H := Option.bind_eq_some_iff.mp H
          obtain ⟨t122, A70, H⟩ := H
          replace H : (gold_Pow.l0 k1 (x1_1 / 2) t121 t122) = some r := H
          have A7 := Aside0.mk A70
          clear A70
          have H' := Aside0.mk H
          clear H
          go_wp2_with (first | ((with_reducible refine gate_callee (f := 64) rfl ?_); refine goesL_ (some 18) rfl rfl Try.func64 (by kernel_rfl) rfl #[.int .u64 x5_1, .int .u64 x6_1] rfl (by (try simp only [List.map_toArray, List.map_cons, List.map_nil]); first | done | rfl | (simp only [List.length_drop, List.length_take]; rfl)) ?_; (with_reducible refine (gold_Mul.calls x5_1 x6_1 t121 _ A6.out).mono ?_); rintro e w8 ⟨rfl, hb⟩; refine ⟨_, rfl, ?_⟩; have n0_ := Aside0.mk (below_step (by repeat (first | (with_reducible first | exact HB.out | apply below_alloc | apply pw_below_drewN | apply below_drew1) | exact HB.out)) hb); clear HB; have HB := n0_; clear n0_; (try clear hb); (try clear hb2); (try clear hk); (try clear hi)) | ((with_reducible refine gate_callee (f := 64) rfl ?_); refine goesL_ (some 21) rfl rfl Try.func64 (by kernel_rfl) rfl #[.int .u64 x6_1, .int .u64 x6_1] rfl (by (try simp only [List.map_toArray, List.map_cons, List.map_nil]); first | done | rfl | (simp only [List.length_drop, List.length_take]; rfl)) ?_; (with_reducible refine (gold_Mul.calls x6_1 x6_1 t122 _ A7.out).mono ?_); rintro e w9 ⟨rfl, hb⟩; refine ⟨_, rfl, ?_⟩; have n0_ := Aside0.mk (below_step (by repeat (first | (with_reducible first | exact HB.out | apply below_alloc | apply pw_below_drewN | apply below_drew1) | exact HB.out)) hb); clear HB; have HB := n0_; clear n0_; (try clear hb); (try clear hb2); (try clear hk); (try clear hi)))
          (first | go_roundg k1 | (simp only [add_plain] at *; go_roundg k1))
          case measure => have := HK1.out; omega
          case rel => exact ⟨(x1_1 / 2), (t121), (t122), (by first | rfl | (simp; done) | (simp [*]; done)), (by first | rfl | (simp; done) | (simp [*]; done)), (by first | rfl | (simp; done) | (simp [*]; done)), H', ⟨by have := HK1.out; omega⟩, ⟨by repeat (first | (with_reducible first | exact HB.out | apply below_alloc | apply pw_below_drewN | apply below_drew1) | exact HB.out)⟩⟩
        · rw [if_neg c5] at H
          have c5b0 : ((Go.bits .and .u64 x1_1 1) == 1) = false := beq_eq_false_iff_ne.mpr c5
          have c5b1 : ((Go.bits .and .u64 x1_1 1) != 1) = true := bne_iff_ne.mpr c5
          replace H := Option.bind_eq_some_iff.mp H
          obtain ⟨t123, A100, H⟩ := H
          replace H : (gold_Pow.l0 k1 (x1_1 / 2) x5_1 t123) = some r := H
          have A10 := Aside0.mk A100
          clear A100
          have H' := Aside0.mk H
          clear H
          go_wp2_with (first | ((with_reducible refine gate_callee (f := 64) rfl ?_); refine goesL_ (some 21) rfl rfl Try.func64 (by kernel_rfl) rfl #[.int .u64 x6_1, .int .u64 x6_1] rfl (by (try simp only [List.map_toArray, List.map_cons, List.map_nil]); first | done | rfl | (simp only [List.length_drop, List.length_take]; rfl)) ?_; (with_reducible refine (gold_Mul.calls x6_1 x6_1 t123 _ A10.out).mono ?_); rintro e w11 ⟨rfl, hb⟩; refine ⟨_, rfl, ?_⟩; have n0_ := Aside0.mk (below_step (by repeat (first | (with_reducible first | exact HB.out | apply below_alloc | apply pw_below_drewN | apply below_drew1) | exact HB.out)) hb); clear HB; have HB := n0_; clear n0_; (try clear hb); (try clear hb2); (try clear hk); (try clear hi)))
          (first | go_roundg k1 | (simp only [add_plain] at *; go_roundg k1))
          case measure => have := HK1.out; omega
          case rel => exact ⟨(x1_1 / 2), (x5_1), (t123), (by first | rfl | (simp; done) | (simp [*]; done)), (by first | rfl | (simp; done) | (simp [*]; done)), (by first | rfl | (simp; done) | (simp [*]; done)), H', ⟨by have := HK1.out; omega⟩, ⟨by repeat (first | (with_reducible first | exact HB.out | apply below_alloc | apply pw_below_drewN | apply below_drew1) | exact HB.out)⟩⟩
      · rw [if_neg c4] at H
        have c4b0 : decide (0 < x1_1) = false := decide_eq_false c4
        clear c4
        obtain rfl := Option.some.inj H
        go_wp2
        go_ret
        exact ⟨by first | rfl | (simp [errW_none, errW_some] <;> rfl) | (simp [*, errW_none, errW_some] <;> rfl), by repeat (first | (with_reducible first | exact HB.out | apply below_alloc | apply pw_below_drewN | apply below_drew1) | exact HB.out)⟩

/-! ### gold_Inv: function 44 -/
def gold_Inv.f (k : Nat) (a0 : Int) : Option (Int × Int) := (gold_Of.f a0).bind fun t124 => (if t124 = 0 then (some (0, 13)) else ((gold_Pow.f k a0 18446744069414584319).bind fun t125 => (some (t125, 0))))
theorem gold_Inv.mono : ∀ a0 k, LeO (gold_Inv.f k a0) (gold_Inv.f (k + 1) a0) := by
  intro a0 k
  unfold gold_Inv.f
  repeat' first
      | (with_reducible exact gold_Pow.mono _ _ _)
      | (with_reducible exact LeO.refl _)
      | (with_reducible exact LeO.none _)
      | (with_reducible refine LeO.ite ?_ ?_)
      | (with_reducible refine LeO.bind ?_ (fun _ => ?_))
      | exact gold_Pow.mono _ _ _
      | exact LeO.none _
      | refine LeO.ite ?_ ?_
      | refine LeO.bind ?_ (fun _ => ?_)
set_option maxHeartbeats 8000000 in
set_option maxRecDepth 100000 in
theorem gold_Inv.calls (k : Nat) (a0 : Int) (r1 : Int) (r2 : Int) (w : World) (h : gold_Inv.f k a0 = some (r1, r2)) :
    Calls Try.prog 44 #[.int .u64 a0] w fun e w' => e = .returned (.tuple #[.int .u64 r1, .int .i64 r2]) ∧ Below w.heap.size w w' := by
  have HB := Aside0.mk (Below.refl w.heap.size w)
  have H : ((gold_Of.f a0).bind fun t124 => (if t124 = 0 then (some (0, 13)) else ((gold_Pow.f k a0 18446744069414584319).bind fun t125 => (some (t125, 0))))) = some (r1, r2) := h
  clear h
  replace H := Option.bind_eq_some_iff.mp H
  obtain ⟨t124, A20, H⟩ := H
  replace H : (if t124 = 0 then (some (0, 13)) else ((gold_Pow.f k a0 18446744069414584319).bind fun t125 => (some (t125, 0)))) = some (r1, r2) := H
  have A2 := Aside0.mk A20
  clear A20
  by_cases c3 : t124 = 0
  · rw [if_pos c3] at H
    have c3b0 : (t124 == 0) = true := beq_iff_eq.mpr c3
    have c3b1 : (t124 != 0) = false := bne_eq_false_iff_eq.mpr c3
    clear c3
    simp only [Option.some.injEq, Prod.mk.injEq] at H
    obtain ⟨rfl, rfl⟩ := H
    go_enter Try.func44, Try.ntmps44
    go_wp2_with (first | ((with_reducible refine gate_callee (f := 43) rfl ?_); refine goesL_ (some 5) rfl rfl Try.func43 (by kernel_rfl) rfl #[.int .u64 a0] rfl (by (try simp only [List.map_toArray, List.map_cons, List.map_nil]); first | done | rfl | (simp only [List.length_drop, List.length_take]; rfl)) ?_; (with_reducible refine (gold_Of.calls a0 t124 _ A2.out).mono ?_); rintro e w' ⟨rfl, ⟨nd, rfl⟩⟩; refine ⟨_, rfl, ?_⟩))
    go_ret2
    exact ⟨by first | rfl | (simp [errW_none, errW_some] <;> rfl) | (simp [*, errW_none, errW_some] <;> rfl), by repeat (first | (with_reducible first | exact HB.out | apply below_alloc | apply pw_below_drewN | apply below_drew1) | exact HB.out)⟩
  · rw [if_neg c3] at H
    have c3b0 : (t124 == 0) = false := beq_eq_false_iff_ne.mpr c3
    have c3b1 : (t124 != 0) = true := bne_iff_ne.mpr c3
    replace H := Option.bind_eq_some_iff.mp H
    obtain ⟨t125, A40, H⟩ := H
    replace H : (some (t125, 0)) = some (r1, r2) := H
    have A4 := Aside0.mk A40
    clear A40
    simp only [Option.some.injEq, Prod.mk.injEq] at H
    obtain ⟨rfl, rfl⟩ := H
    go_enter Try.func44, Try.ntmps44
    go_wp2_with (first | ((with_reducible refine gate_callee (f := 43) rfl ?_); refine goesL_ (some 5) rfl rfl Try.func43 (by kernel_rfl) rfl #[.int .u64 a0] rfl (by (try simp only [List.map_toArray, List.map_cons, List.map_nil]); first | done | rfl | (simp only [List.length_drop, List.length_take]; rfl)) ?_; (with_reducible refine (gold_Of.calls a0 t124 _ A2.out).mono ?_); rintro e w' ⟨rfl, ⟨nd, rfl⟩⟩; refine ⟨_, rfl, ?_⟩) | ((with_reducible refine gate_callee (f := 58) rfl ?_); refine goesL_ (some 8) rfl rfl Try.func58 (by kernel_rfl) rfl #[.int .u64 a0, .int .u64 18446744069414584319] rfl (by (try simp only [List.map_toArray, List.map_cons, List.map_nil]); first | done | rfl | (simp only [List.length_drop, List.length_take]; rfl)) ?_; (with_reducible refine (gold_Pow.calls k a0 18446744069414584319 t125 _ A4.out).mono ?_); rintro e w5 ⟨rfl, hb⟩; refine ⟨_, rfl, ?_⟩; have n0_ := Aside0.mk (below_step (by repeat (first | (with_reducible first | exact HB.out | apply below_alloc | apply pw_below_drewN | apply below_drew1) | exact HB.out)) hb); clear HB; have HB := n0_; clear n0_; (try clear hb); (try clear hb2); (try clear hk); (try clear hi)))
    go_ret2
    exact ⟨by first | rfl | (simp [errW_none, errW_some] <;> rfl) | (simp [*, errW_none, errW_some] <;> rfl), by repeat (first | (with_reducible first | exact HB.out | apply below_alloc | apply pw_below_drewN | apply below_drew1) | exact HB.out)⟩

/-! ### poly_Degree: function 47 -/
def poly_Degree.l0 : Nat → List Int → Int → Option (Int)
  | 0, _, _ => none
  | k + 1, x0, x3 => if x3 ≥ 0 then (if 0 ≤ x3 then (if x3 < (x0.length : Int) then ((gold_Of.f (rd x0 x3)).bind fun t127 => (if t127 = 0 then (poly_Degree.l0 k x0 (wrap64 (x3 - 1))) else (some x3))) else (none)) else (none)) else (some x3)
def poly_Degree.f (k : Nat) (l0 : List Int) : Option (Int) := poly_Degree.l0 k l0 (wrap64 ((l0.length : Int) - 1))
theorem poly_Degree.mono_l : ∀ k, (∀ y0 y1, LeO (poly_Degree.l0 k y0 y1) (poly_Degree.l0 (k + 1) y0 y1))
  | 0 => fun _ _ r h => by simp [poly_Degree.l0] at h
  | k + 1 => by
    have ih0 := poly_Degree.mono_l k
    · intro y0 y1
      unfold poly_Degree.l0
      repeat' first
      | (with_reducible exact ih0 _ _)
      | (with_reducible exact LeO.refl _)
      | (with_reducible exact LeO.none _)
      | (with_reducible refine LeO.ite ?_ ?_)
      | (with_reducible refine LeO.bind ?_ (fun _ => ?_))
      | exact ih0 _ _
      | exact LeO.none _
      | refine LeO.ite ?_ ?_
      | refine LeO.bind ?_ (fun _ => ?_)
theorem poly_Degree.mono : ∀ a0 k, LeO (poly_Degree.f k a0) (poly_Degree.f (k + 1) a0) := by
  intro a0 k
  have ih0 := poly_Degree.mono_l k
  unfold poly_Degree.f
  repeat' first
      | (with_reducible exact ih0 _ _)
      | (with_reducible exact LeO.refl _)
      | (with_reducible exact LeO.none _)
      | (with_reducible refine LeO.ite ?_ ?_)
      | (with_reducible refine LeO.bind ?_ (fun _ => ?_))
      | exact ih0 _ _
      | exact LeO.none _
      | refine LeO.ite ?_ ?_
      | refine LeO.bind ?_ (fun _ => ?_)
set_option maxHeartbeats 8000000 in
set_option maxRecDepth 100000 in
theorem poly_Degree.calls (k : Nat) (A0 : Option Addr) (c0 : Nat) (l0 : List Int) (r : Int) (w : World) (hr0 : Kd.C (Kd.int .u64) w A0 l0.length l0) (hc0 : l0.length ≤ c0) (h : poly_Degree.f k l0 = some r) :
    Calls Try.prog 47 #[.slice A0 l0.length c0] w fun e w' => e = .returned (.int .i64 r) ∧ Drawn0 w w' := by
  have HR0 := Aside0.mk hr0
  have HC0 := Aside0.mk hc0
  clear hr0 hc0
  have H : (poly_Degree.l0 k l0 (wrap64 ((l0.length : Int) - 1))) = some r := h
  clear h
  have H' := Aside0.mk H
  clear H
  go_enter Try.func47, Try.ntmps47
  go_wp2
  go_loopg [3] k (fun kq v3 w' => ∃ (x3_1 : Int), v3 = .int .i64 x3_1 ∧ Aside0 (poly_Degree.l0 kq l0 x3_1 = some r) ∧ Aside0 (kq ≤ k) ∧ Drawn0 w w')
  case atStart => exact ⟨(wrap64 ((l0.length : Int) - 1)), (by first | rfl | (simp; done) | (simp [*]; done)), H', ⟨Nat.le_refl _⟩, by repeat (first | exact Drawn0.refl _ | apply Drawn0.step)⟩
  case round =>
    clear H'
    obtain ⟨x3_1, rfl, HA, HK1, ⟨m1, rfl⟩⟩ := hrel
    cases gk with
    | zero => exact absurd HA.out (by simp [poly_Degree.l0])
    | succ k1 =>
      have H := HA.out
      clear HA
      simp only [poly_Degree.l0] at H
      by_cases c2 : x3_1 ≥ 0
      · rw [if_pos c2] at H
        have c2b0 : decide (0 ≤ x3_1) = true := decide_eq_true c2
        clear c2
        by_cases c3 : 0 ≤ x3_1
        · rw [if_pos c3] at H
          have c3b0 : decide (0 ≤ x3_1) = true := decide_eq_true c3
          clear c3
          by_cases c4 : x3_1 < (l0.length : Int)
          · rw [if_pos c4] at H
            have c4b0 : decide (x3_1 < (l0.length : Int)) = true := decide_eq_true c4
            clear c4
            replace H := Option.bind_eq_some_iff.mp H
            obtain ⟨t127, A50, H⟩ := H
            replace H : (if t127 = 0 then (poly_Degree.l0 k1 l0 (wrap64 (x3_1 - 1))) else (some x3_1)) = some r := H
            have A5 := Aside0.mk A50
            clear A50
            by_cases c6 : t127 = 0
            · rw [if_pos c6] at H
              have c6b0 : (t127 == 0) = true := beq_iff_eq.mpr c6
              have c6b1 : (t127 != 0) = false := bne_eq_false_iff_eq.mpr c6
              clear c6
              have H' := Aside0.mk H
              clear H
              have p126 : 0 ≤ (x3_1 : Int) := of_decide_eq_true (by first | (with_reducible assumption) | assumption)
              have q126 : x3_1 < (l0.length : Int) := of_decide_eq_true (by first | (with_reducible assumption) | assumption)
              obtain ⟨ad126, e126, hx126_0⟩ := Kd.at_int HR0.out x3_1 p126 q126
              cases e126
              replace p126 := eq_true p126
              replace q126 := eq_true q126
              go_wp2_with (first | (go_at_call 43; (with_reducible refine (gold_Of.calls (rd l0 x3_1) t127 _ A5.out).mono ?_); rintro e w' ⟨rfl, ⟨nd, rfl⟩⟩))
              (first | go_roundg k1 | (simp only [add_plain] at *; go_roundg k1))
              case measure => have := HK1.out; omega
              case rel => exact ⟨(wrap64 (x3_1 - 1)), (by first | rfl | (simp; done) | (simp [*]; done)), H', ⟨by have := HK1.out; omega⟩, by repeat (first | exact Drawn0.refl _ | apply Drawn0.step)⟩
            · rw [if_neg c6] at H
              have c6b0 : (t127 == 0) = false := beq_eq_false_iff_ne.mpr c6
              have c6b1 : (t127 != 0) = true := bne_iff_ne.mpr c6
              obtain rfl := Option.some.inj H
              have p126 : 0 ≤ (x3_1 : Int) := of_decide_eq_true (by first | (with_reducible assumption) | assumption)
              have q126 : x3_1 < (l0.length : Int) := of_decide_eq_true (by first | (with_reducible assumption) | assumption)
              obtain ⟨ad126, e126, hx126_0⟩ := Kd.at_int HR0.out x3_1 p126 q126
              cases e126
              replace p126 := eq_true p126
              replace q126 := eq_true q126
              go_wp2_with (first | (go_at_call 43; (with_reducible refine (gold_Of.calls (rd l0 x3_1) t127 _ A5.out).mono ?_); rintro e w' ⟨rfl, ⟨nd, rfl⟩⟩))
              go_ret
              exact ⟨by first | rfl | (simp; done) | (simp [*]; done), by repeat (first | exact Drawn0.refl _ | apply Drawn0.step)⟩
          · rw [if_neg c4] at H
            exact absurd H (by simp)
        · rw [if_neg c3] at H
          exact absurd H (by simp)
      · rw [if_neg c2] at H
        have c2b0 : decide (0 ≤ x3_1) = false := decide_eq_false c2
        clear c2
        obtain rfl := Option.some.inj H
        go_wp2
        go_ret
        exact ⟨by first | rfl | (simp; done) | (simp [*]; done), by repeat (first | exact Drawn0.refl _ | apply Drawn0.step)⟩

end Go.Proofs.Ytnmjomcpkckihaa.PSeriesLogs
