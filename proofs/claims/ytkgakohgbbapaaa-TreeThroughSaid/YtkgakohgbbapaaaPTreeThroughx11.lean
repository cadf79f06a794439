-- Written for this claim by wip/gen/mk.sh, this session's own driver over the kit's print
import Derived.Test.YtkgakohgbbapaaaPTreeThroughx0
import Derived.Test.YtkgakohgbbapaaaPTreeThroughx1
import Derived.Test.YtkgakohgbbapaaaPTreeThroughx6
import Derived.Test.YtkgakohgbbapaaaPTreeThroughx10
namespace Go.Proofs.Ytkgakohgbbapaaa.PTreeThrough
open Go.RowKit Go.Proofs.YtkgakohgbbapaaaW.PrintWords Go.Proofs.YtkgakohgbbapaaaW.PrintLast Go.Proofs.YtkgakohgbbapaaaW.PrintMore
attribute [local go_sem] max2_int min2_int max_two min_two max_three min_three max_four min_four   -- for this text's walks alone
set_option linter.unusedVariables false
set_option linter.unusedSimpArgs false

/-! ### tree_Tree_Values: function 20 (by hand) -/
theorem hk_add0 (a : Addr) : a.add 0 = a := by
  unfold Addr.add
  split <;> simp_all
theorem hk_at2 {w : World} {A : Option Addr} {xs : List (List (List Int))} (h : Kd.C (Kd.slice 22 (Kd.slice 29 (Kd.int .u64))) w A xs.length xs) (i : Nat) (hi : i < xs.length) :
    ∃ ad A0 c0, A = some ad ∧ w.cell? (ad.add i) = some (.slice A0 (xs.getD i []).length c0) ∧ (xs.getD i []).length ≤ c0 ∧ Kd.C (Kd.slice 29 (Kd.int .u64)) w A0 (xs.getD i []).length (xs.getD i []) := by
  have h2 := at_L2 h (i : Int) (by omega) (by omega)
  unfold rd_L2 at h2
  rw [Int.toNat_natCast] at h2
  exact h2
theorem hk_at1 {w : World} {A : Option Addr} {xs : List (List Int)} (h : Kd.C (Kd.slice 29 (Kd.int .u64)) w A xs.length xs) (i : Nat) (hi : i < xs.length) :
    ∃ ad A0 c0, A = some ad ∧ w.cell? (ad.add i) = some (.slice A0 (xs.getD i []).length c0) ∧ (xs.getD i []).length ≤ c0 ∧ Kd.C (Kd.int .u64) w A0 (xs.getD i []).length (xs.getD i []) := by
  have h2 := at_L1 h (i : Int) (by omega) (by omega)
  unfold rd_L1 at h2
  rw [Int.toNat_natCast] at h2
  exact h2
/-- One row, boxed. -/
theorem hk_box_C {W : World} {b c : Nat} {A : Option Addr} {x : List Int} (h : W.heap[b]? = some (.cells #[.slice A x.length c] 22 (0, 0))) (hl : x.length ≤ c) (hC : Kd.C (Kd.int .u64) W A x.length x) : Kd.C (Kd.slice 29 (Kd.int .u64)) W (some ⟨b, 0, none⟩) [x].length [x] := by
  refine ⟨rfl, show (1 : Nat) ≤ 9223372036854775807 by decide, fun _ => ⟨_, rfl, fun j p hj => ?_⟩⟩
  rcases j with _ | j
  · rw [List.getElem?_cons_zero] at hj
    injection hj with hj
    subst hj
    refine ⟨[.slice A x.length c], rfl, ⟨A, c, rfl, hl, hC⟩, fun i u hu => ?_⟩
    rcases i with _ | i
    · rw [List.getElem?_cons_zero] at hu
      injection hu with hu
      subst hu
      rw [add_at]
      exact hk_blk_cell h 0 _ rfl
    · simp at hu
  · simp at hj
def tree_Tree_Values.l2 (k : Nat) (rs : List (List Int)) : List (List Int) → Nat → List (List Int) → Option (List (List Int))
  | [], _, nx => some nx
  | q :: qs, i, nx => if i / 2 < rs.length then (tree_rest.f k (rs.getD (i / 2) []) q).bind fun r => tree_Tree_Values.l2 k rs qs (i + 1) (nx ++ [r]) else none
def tree_Tree_Values.l1 (k : Nat) (L : List (List (List Int))) : Nat → List (List Int) → Option (List (List Int))
  | 0, rs => some rs
  | m + 1, rs => if (L.getD m []).length < 4294967296 then (tree_Tree_Values.l2 k rs (L.getD m []) 0 []).bind fun nx => tree_Tree_Values.l1 k L m nx else none
def tree_Tree_Values.l3 (k : Nat) : List (List Int) → List Int → Option (List Int)
  | [], o => some o
  | r :: rs, o => (poly_At.f k r 0).bind fun x => tree_Tree_Values.l3 k rs (o ++ [x])
def tree_Tree_Values.f (k : Nat) (L : List (List (List Int))) (l : List Int) : Option (List Int × Int) :=
  if 65536 < l.length then some ([], 14) else
  if 0 < L.length ∧ L.length < 4294967296 ∧ 0 < (L.getD (L.length - 1) []).length then
    (tree_rest.f k l ((L.getD (L.length - 1) []).getD 0 [])).bind fun r0 => (tree_Tree_Values.l1 k L (L.length - 1) [r0]).bind fun rs => if rs.length < 4294967296 then (tree_Tree_Values.l3 k rs []).bind fun o => some (o, 0) else none
  else none
def tree_Tree_Values.Post (w : World) (r1 : List Int) (r2 : Int) (e : Ending) (w' : World) : Prop :=
  ∃ v : Value, e = .returned (.tuple #[v, .int .i64 r2]) ∧ Kd.R (Kd.int .u64) 29 w' w.heap.size (fun _ => True) v r1 ∧ Below w.heap.size w w'
set_option maxHeartbeats 4000000 in
set_option maxRecDepth 100000 in
theorem tree_Tree_Values.calls (k g : Nat) (ps : List Int) (L : List (List (List Int))) (A : Option Addr) (c : Nat) (l : List Int) (r1 : List Int) (r2 : Int) (w : World) (hT : hk_T w g ps L) (hr : Kd.C (Kd.int .u64) w A l.length l) (hc : l.length ≤ c) (h : tree_Tree_Values.f k L l = some (r1, r2)) :
    Calls Try.prog 20 #[.pointer (some ⟨g, 0, none⟩), .slice A l.length c] w (tree_Tree_Values.Post w r1 r2) := by
  unfold tree_Tree_Values.f at h
  have HR := Aside0.mk hr
  have HC := Aside0.mk hc
  clear hr hc
  by_cases hbig : 65536 < l.length
  · rw [if_pos hbig] at h
    simp only [Option.some.injEq, Prod.mk.injEq] at h
    obtain ⟨rfl, rfl⟩ := h
    have p1 : decide ((65536 : Int) < (l.length : Int)) = true := decide_eq_true (by omega)
    have p2 : decide (65536 < l.length) = true := decide_eq_true hbig
    have p3 := eq_true hbig
    clear hbig
    go_enter Try.func20, Try.ntmps20
    go_wp2
    go_ret2
    exact ⟨_, rfl, Kd.R_nil _ _ _ _ _, Below.refl _ _⟩
  · rw [if_neg hbig] at h
    by_cases h0 : 0 < L.length ∧ L.length < 4294967296 ∧ 0 < (L.getD (L.length - 1) []).length
    · rw [if_pos h0] at h
      obtain ⟨hL0, hL1, hlv⟩ := h0
      obtain ⟨n, hn⟩ : ∃ n, L.length = n + 1 := ⟨L.length - 1, by omega⟩
      rw [show L.length - 1 = n by omega] at h hlv
      obtain ⟨r0, h1, h⟩ := Option.bind_eq_some_iff.1 h
      obtain ⟨RS, h2, h⟩ := Option.bind_eq_some_iff.1 h
      by_cases hRS : RS.length < 4294967296
      · rw [if_pos hRS] at h
        obtain ⟨O, h3, h⟩ := Option.bind_eq_some_iff.1 h
        simp only [Option.some.injEq, Prod.mk.injEq] at h
        obtain ⟨rfl, rfl⟩ := h
        obtain ⟨A0, cp, A1, c1, hG, _, _, _, hC1⟩ := hT
        have HT1 := Aside0.mk hC1
        obtain ⟨ad1, A2, c2, rfl, hx1, hl2, hC2⟩ := hk_at2 hC1 n (by omega)
        obtain ⟨lv, hlve⟩ : ∃ lv, lv = L.getD n [] := ⟨_, rfl⟩
        rw [← hlve] at hx1 hl2 hC2 hlv h1
        obtain ⟨ad2, A3, c3, rfl, hx2, hl3, hC3⟩ := hk_at1 hC2 0 hlv
        obtain ⟨tp, htp⟩ : ∃ tp, tp = lv.getD 0 [] := ⟨_, rfl⟩
        rw [← htp] at hx2 hl3 hC3 h1
        rw [hk_add0] at hx2
        have hgc := hk_blk_cell hG 1 _ rfl
        have HG := Aside0.mk hG
        have H1 := Aside0.mk h1
        have H2 := Aside0.mk h2
        have H3 := Aside0.mk h3
        have HN := Aside0.mk hn
        have HC3 := Aside0.mk hC3
        have HL3 := Aside0.mk hl3
        have HRS := Aside0.mk hRS
        have HX1 := Aside0.mk hx1
        have HX2 := Aside0.mk hx2
        have HGC := Aside0.mk hgc
        have HLV := Aside0.mk hlv
        have HL1 := Aside0.mk hL1
        have i1 : IntKind.i64.wrap ((L.length : Int) - 1) = (n : Int) := by rw [IntWalk.i64_in _ (by omega)]; omega
        have i2 : wrap64 ((L.length : Int) - 1) = (n : Int) := by unfold wrap64; omega
        have j1 : (0 ≤ (n : Int)) = True := eq_true (by omega)
        have j2 : ((n : Int) < (L.length : Int)) = True := eq_true (by omega)
        have j3 : (0 < lv.length) = True := eq_true hlv
        have j4 : ((0 : Int) < (lv.length : Int)) = True := eq_true (by omega)
        have p1 : decide ((65536 : Int) < (l.length : Int)) = false := decide_eq_false (by omega)
        have p2 : decide (65536 < l.length) = false := decide_eq_false hbig
        clear hC1 hC2 hC3 hG h1 h2 h3 hn hbig hRS hL0 hL1 hl2 hl3 hlv hlve htp
        go_enter Try.func20, Try.ntmps20
        go_wp2
        refine start_ (n := 18) (S := fun w' => w'.cell? ⟨g, 1, none⟩ = some (.slice (some ad1) L.length c1) ∧ w'.cell? (ad1.add n) = some (.slice (some ad2) lv.length c2) ∧ w'.cell? ad2 = some (.slice A3 tp.length c3)) (ds := []) #[false, false, false, false, false, false, false, false, false, false, false, false, false, false, false, false, false, false] (by kernel_rfl) rfl rfl ⟨HGC.out, HX1.out, HX2.out⟩ (fun hHeld => ?_)
        refine pure_ (i := 0) (N := some 17) (v := ?_) (a' := ?_) #[true, false, false, false, false, false, false, false, false, false, false, false, false, false, false, false, false, false] rfl rfl (by kernel_rfl) (fun _ _ _ h => h) (Or.inl ⟨by rfl, ?_⟩) ?_ ?_
        rotate_left
        · intro w'
          go_simp
          with_reducible rfl
        rotate_left
        · simp only [Act.put, List.setIfInBounds_toArray, List.set_cons_zero, List.set_cons_succ, i64_w, i32_w]
          rfl
        refine pure_ (i := 1) (N := some 18) (v := ?_) (a' := ?_) #[true, true, false, false, false, false, false, false, false, false, false, false, false, false, false, false, false, false] rfl rfl (by kernel_rfl) (fun _ _ _ h => h) (Or.inl ⟨by rfl, ?_⟩) ?_ ?_
        rotate_left
        · intro w'
          go_simp
          with_reducible rfl
        rotate_left
        · simp only [Act.put, List.setIfInBounds_toArray, List.set_cons_zero, List.set_cons_succ, i64_w, i32_w]
          rfl
        refine pure_ (i := 2) (N := some 19) (v := ?_) (a' := ?_) #[true, true, true, false, false, false, false, false, false, false, false, false, false, false, false, false, false, false] rfl rfl (by kernel_rfl) (fun _ _ _ h => h) (Or.inl ⟨by rfl, ?_⟩) ?_ ?_
        rotate_left
        · intro w'
          go_simp
          with_reducible rfl
        rotate_left
        · simp only [Act.put, List.setIfInBounds_toArray, List.set_cons_zero, List.set_cons_succ, i64_w, i32_w]
          rfl
        refine pure_ (i := 3) (N := some 20) (v := ?_) (a' := ?_) #[true, true, true, true, false, false, false, false, false, false, false, false, false, false, false, false, false, false] rfl rfl (by kernel_rfl) (fun _ _ _ h => h) (Or.inl ⟨by rfl, ?_⟩) ?_ ?_
        rotate_left
        · intro w'
          go_simp
          with_reducible rfl
        rotate_left
        · simp only [Act.put, List.setIfInBounds_toArray, List.set_cons_zero, List.set_cons_succ, i64_w, i32_w]
          rfl
        refine pure_ (i := 5) (N := some 22) (v := ?_) (a' := ?_) #[true, true, true, true, false, true, false, false, false, false, false, false, false, false, false, false, false, false] rfl rfl (by kernel_rfl) (fun _ _ _ h => h) (Or.inl ⟨by rfl, ?_⟩) ?_ ?_
        rotate_left
        · intro w'
          go_simp
          with_reducible rfl
        rotate_left
        · simp only [Act.put, List.setIfInBounds_toArray, List.set_cons_zero, List.set_cons_succ, i64_w, i32_w]
          rfl
        refine pure_ (i := 6) (N := some 23) (v := ?_) (a' := ?_) #[true, true, true, true, false, true, true, false, false, false, false, false, false, false, false, false, false, false] rfl rfl (by kernel_rfl) (fun _ _ _ h => h) (Or.inl ⟨by rfl, ?_⟩) ?_ ?_
        rotate_left
        · intro w'
          go_simp
          with_reducible rfl
        rotate_left
        · simp only [Act.put, List.setIfInBounds_toArray, List.set_cons_zero, List.set_cons_succ, i64_w, i32_w]
          rfl
        refine pure_ (i := 7) (N := some 24) (v := ?_) (a' := ?_) #[true, true, true, true, false, true, true, true, false, false, false, false, false, false, false, false, false, false] rfl rfl (by kernel_rfl) (fun _ _ _ h => h) (Or.inl ⟨by rfl, ?_⟩) ?_ ?_
        rotate_left
        · intro w'
          go_simp
          with_reducible rfl
        rotate_left
        · simp only [Act.put, List.setIfInBounds_toArray, List.set_cons_zero, List.set_cons_succ, i64_w, i32_w]
          rfl
        refine take_ (i := 4) (N := some 21) (v := ?_) (a' := ?_) #[true, true, true, true, true, true, true, true, false, false, false, false, false, false, false, false, false, false] rfl rfl (by kernel_rfl) (fun _ _ _ h => h) (Or.inl ⟨by rfl, ?_⟩) hHeld ?_ ?_
        rotate_left
        · rintro w' ⟨s0, s1, s2⟩
          go_simp
          with_reducible rfl
        rotate_left
        · simp only [Act.put, List.setIfInBounds_toArray, List.set_cons_zero, List.set_cons_succ, i64_w, i32_w]
          rfl
        refine take_ (i := 8) (N := some 25) (v := ?_) (a' := ?_) #[true, true, true, true, true, true, true, true, true, false, false, false, false, false, false, false, false, false] rfl rfl (by kernel_rfl) (fun _ _ _ h => h) (Or.inl ⟨by rfl, ?_⟩) hHeld ?_ ?_
        rotate_left
        · rintro w' ⟨s0, s1, s2⟩
          go_simp
          with_reducible rfl
        rotate_left
        · simp only [Act.put, List.setIfInBounds_toArray, List.set_cons_zero, List.set_cons_succ, i64_w, i32_w]
          rfl
        refine pure_ (i := 9) (N := some 26) (v := ?_) (a' := ?_) #[true, true, true, true, true, true, true, true, true, true, false, false, false, false, false, false, false, false] rfl rfl (by kernel_rfl) (fun _ _ _ h => h) (Or.inl ⟨by rfl, ?_⟩) ?_ ?_
        rotate_left
        · intro w'
          go_simp
          with_reducible rfl
        rotate_left
        · simp only [Act.put, List.setIfInBounds_toArray, List.set_cons_zero, List.set_cons_succ, i64_w, i32_w]
          rfl
        refine pure_ (i := 10) (N := some 27) (v := ?_) (a' := ?_) #[true, true, true, true, true, true, true, true, true, true, true, false, false, false, false, false, false, false] rfl rfl (by kernel_rfl) (fun _ _ _ h => h) (Or.inl ⟨by rfl, ?_⟩) ?_ ?_
        rotate_left
        · intro w'
          go_simp
          with_reducible rfl
        rotate_left
        · simp only [Act.put, List.setIfInBounds_toArray, List.set_cons_zero, List.set_cons_succ, i64_w, i32_w]
          rfl
        refine pure_ (i := 11) (N := some 28) (v := ?_) (a' := ?_) #[true, true, true, true, true, true, true, true, true, true, true, true, false, false, false, false, false, false] rfl rfl (by kernel_rfl) (fun _ _ _ h => h) (Or.inl ⟨by rfl, ?_⟩) ?_ ?_
        rotate_left
        · intro w'
          go_simp
          with_reducible rfl
        rotate_left
        · simp only [Act.put, List.setIfInBounds_toArray, List.set_cons_zero, List.set_cons_succ, i64_w, i32_w]
          rfl
        refine take_ (i := 12) (N := some 29) (v := ?_) (a' := ?_) #[true, true, true, true, true, true, true, true, true, true, true, true, true, false, false, false, false, false] rfl rfl (by kernel_rfl) (fun _ _ _ h => h) (Or.inl ⟨by rfl, ?_⟩) hHeld ?_ ?_
        rotate_left
        · rintro w' ⟨s0, s1, s2⟩
          go_simp
          with_reducible rfl
        rotate_left
        · simp only [Act.put, List.setIfInBounds_toArray, List.set_cons_zero, List.set_cons_succ, i64_w, i32_w]
          rfl
        refine pure_ (i := 13) (N := some 30) (v := ?_) (a' := ?_) #[true, true, true, true, true, true, true, true, true, true, true, true, true, true, false, false, false, false] rfl rfl (by kernel_rfl) (fun _ _ _ h => h) (Or.inl ⟨by rfl, ?_⟩) ?_ ?_
        rotate_left
        · intro w'
          go_simp
          with_reducible rfl
        rotate_left
        · simp only [Act.put, List.setIfInBounds_toArray, List.set_cons_zero, List.set_cons_succ, i64_w, i32_w]
          rfl
        refine take_ (i := 14) (N := some 31) (v := ?_) (a' := ?_) #[true, true, true, true, true, true, true, true, true, true, true, true, true, true, true, false, false, false] rfl rfl (by kernel_rfl) (fun _ _ _ h => h) (Or.inl ⟨by rfl, ?_⟩) hHeld ?_ ?_
        rotate_left
        · rintro w' ⟨s0, s1, s2⟩
          go_simp
          with_reducible rfl
        rotate_left
        · simp only [Act.put, List.setIfInBounds_toArray, List.set_cons_zero, List.set_cons_succ, i64_w, i32_w]
          rfl
        refine one_ (i := 15) (N := some 32) #[true, true, true, true, true, true, true, true, true, true, true, true, true, true, true, true, false, false] rfl rfl (by kernel_rfl) (by decide) (fun K hK => ?_)
        refine goes_ Try.func31 (by kernel_rfl) rfl #[.slice A l.length c, .slice A3 tp.length c3] (by rfl) rfl rfl (by (try simp only [List.map_toArray, List.map_cons, List.map_nil]); first | done | rfl) ?_
        with_reducible refine (tree_rest.calls k A c l A3 c3 tp r0 _ (Kd.C_drew HR.out) HC.out (Kd.C_drew HC3.out) HL3.out H1.out).mono ?_
        rintro e w6 ⟨v6, rfl, ho6, hb6⟩
        refine ⟨_, rfl, ?_⟩
        obtain ⟨A6, c6, rfl⟩ := Kd.R_slice ho6
        refine hK.out _ _ ⟨(pw_cell_below hb6 HGC.out), (pw_cell_below hb6 HX1.out), (pw_cell_below hb6 HX2.out)⟩ (fun hHeld => ?_)
        clear hK K
        refine norm_ (a' := ?_) ?_ ?_
        rotate_left
        · show Act.put _ (some 32) _ = _
          simp only [Act.put, List.setIfInBounds_toArray, List.set_cons_zero, List.set_cons_succ, i64_w, i32_w]
          rfl
        refine one_ (i := 16) (N := some 33) #[true, true, true, true, true, true, true, true, true, true, true, true, true, true, true, true, true, false] rfl rfl (by kernel_rfl) (by decide) (fun K hK => ?_)
        refine value_ (w1 := ?_) (v := ?_) (by rfl) rfl ?_ ?_
        rotate_left 2
        · go_simp
          constructor
          · rfl
          · rfl
        refine hK.out _ _ ⟨(pw_cell_below (below_alloc hb6 _) HGC.out), (pw_cell_below (below_alloc hb6 _) HX1.out), (pw_cell_below (below_alloc hb6 _) HX2.out)⟩ (fun hHeld => ?_)
        clear hK K
        refine norm_ (a' := ?_) ?_ ?_
        rotate_left
        · show Act.put _ (some 33) _ = _
          simp only [Act.put, List.setIfInBounds_toArray, List.set_cons_zero, List.set_cons_succ, i64_w, i32_w]
          rfl
        refine pure_ (i := 17) (N := some 6) (v := ?_) (a' := ?_) #[true, true, true, true, true, true, true, true, true, true, true, true, true, true, true, true, true, true] rfl rfl (by kernel_rfl) (fun _ _ _ h => h) (Or.inl ⟨by rfl, ?_⟩) ?_ ?_
        rotate_left
        · intro w'
          go_simp
          with_reducible rfl
        rotate_left
        · simp only [Act.put, List.setIfInBounds_toArray, List.set_cons_zero, List.set_cons_succ, i64_w, i32_w]
          rfl
        refine done_ (by kernel_rfl) ?_
        have hB0 := below_step (below_drew1 (Below.refl w.heap.size w)) (below_alloc hb6 (.cells #[.slice A6 r0.length c6] 22))
        have hC0 := hk_box_C (blk_new w6 (.cells #[.slice A6 r0.length c6] 22)) (Kd.R_reads' ho6).2.1 (Kd.C_alloc (Kd.R_reads' ho6).2.2 _)
        clear hHeld ho6 hb6 p1 p2 j3 j4 i1 i2 j1 j2 hx1 hx2
        generalize w6.heap.size = bb at hC0 ⊢
        generalize w6.alloc (.cells #[.slice A6 r0.length c6] 22) = W1 at hB0 hC0 ⊢
        have HB0 := Aside0.mk hB0
        have HCB0 := Aside0.mk hC0
        clear hB0 hC0
        have hgc := pw_cell_below HB0.out HGC.out
        have hnL := HN.out
        have hnB := HL1.out
        have i3 : IntKind.i64.wrap ((L.length : Int) - 2) = (n : Int) - 1 := by rw [IntWalk.i64_in _ (by omega)]; omega
        have i4 : wrap64 ((L.length : Int) - 2) = (n : Int) - 1 := by unfold wrap64; omega
        clear hnL hnB
        go_wp2
        clear i3 i4 hgc
        go_loopg [6, 7] n (fun kq v6 v7 w' => ∃ (rs : List (List Int)) (A6 : Option Addr) (c6 : Nat), v6 = .slice A6 rs.length c6 ∧ v7 = .int .i64 ((kq : Int) - 1) ∧ Aside0 (tree_Tree_Values.l1 k L kq rs = some RS) ∧ Aside0 (kq ≤ n) ∧ Aside0 (rs.length ≤ c6) ∧ Aside0 (Kd.C (Kd.slice 29 (Kd.int .u64)) w' A6 rs.length rs) ∧ Aside0 (Below w.heap.size w w'))
        case atStart => exact ⟨[r0], some ⟨bb, 0, none⟩, 1, rfl, rfl, H2, ⟨Nat.le_refl _⟩, ⟨Nat.le_refl 1⟩, HCB0, HB0⟩
        case round =>
          clear H2 HB0 HCB0 H1
          obtain ⟨rs, A6, c6, rfl, rfl, HA, HKN, HC6, HCR, HB⟩ := hrel
          obtain ⟨W, rfl⟩ : ∃ W, W = wr := ⟨_, rfl⟩
          cases gk with
          | zero =>
            have hRS := Option.some.inj HA.out
            subst hRS
            clear HA
            rw [show (((0 : Nat) : Int) - 1) = -1 from rfl]
            have HW := Aside0.mk (Below.refl W.heap.size W)
            go_wp2
            go_loopg [11, 71] rs.length (fun kq v11 v71 w' => ∃ (i : Nat) (o : List Int), v71 = .int .i64 (i : Int) ∧ Aside0 (i + kq = rs.length) ∧ Aside0 (tree_Tree_Values.l3 k (rs.drop i) o = some O) ∧ Aside0 (Kd.R (Kd.int .u64) 29 w' W.heap.size (fun _ => True) v11 o) ∧ Aside0 (o.length = i) ∧ Aside0 (Below W.heap.size W w'))
            case atStart => exact ⟨0, [], rfl, ⟨Nat.zero_add _⟩, H3, ⟨Kd.R_nil _ _ _ _ _⟩, ⟨rfl⟩, HW⟩
            case round =>
              clear H3 HW
              obtain ⟨i, o, rfl, HI, HA, HO, HOL, HBI⟩ := hrel
              have hi := HI.out
              cases gk with
              | zero =>
                have hil : i = rs.length := by omega
                subst hil
                rw [List.drop_length] at HA
                have hO := Option.some.inj HA.out
                subst hO
                have q1 : decide ((rs.length : Int) < (rs.length : Int)) = false := decide_eq_false (by omega)
                have q2 : (rs.length < rs.length) = False := eq_false (by omega)
                have q3 : decide (rs.length < rs.length) = false := decide_eq_false (by omega)
                clear hi
                go_wp2
                go_ret2
                exact ⟨_, rfl, Kd.R_lower HO.out HB.out.size, below_step HB.out HBI.out⟩
              | succ k1 =>
                have hil : i < rs.length := by omega
                obtain ⟨ad5, A5, c5, e5, hx5, hl5, hC5⟩ := hk_at1 HCR.out i hil
                cases e5
                have hd : rs.drop i = rs.getD i [] :: rs.drop (i + 1) := by rw [List.drop_eq_getElem_cons hil, List.getD_eq_getElem?_getD, List.getElem?_eq_getElem hil]; rfl
                rw [hd] at HA
                generalize rs.getD i [] = x at hx5 hl5 hC5 HA
                obtain ⟨y, hy, hA2⟩ := Option.bind_eq_some_iff.1 (show (poly_At.f k x 0).bind (fun y => tree_Tree_Values.l3 k (rs.drop (i + 1)) (o ++ [y])) = some O from HA.out)
                have HY := Aside0.mk hy
                have HA2 := Aside0.mk hA2
                have HX5 := Aside0.mk (Kd.C_below hC5 HBI.out)
                have HL5 := Aside0.mk hl5
                have hx5 := pw_cell_below HBI.out hx5
                have c1 : decide ((i : Int) < (rs.length : Int)) = true := decide_eq_true (by omega)
                have c2 : (i < rs.length) = True := eq_true hil
                have c3 : (0 ≤ (i : Int)) = True := eq_true (by omega)
                have c4 : ((i : Int) < (rs.length : Int)) = True := eq_true (by omega)
                have hib : i < 4294967296 := by have := HRS.out; omega
                have HLM := Aside0.mk (show (o.length + 1) * 8 ≤ 140737488355328 by have := HOL.out; omega)
                clear HA hd hA2 hy hi hl5 hC5
                go_wp2_with (first | (go_at_call 32; (with_reducible refine (poly_At.calls k A5 c5 x 0 y _ HX5.out HL5.out HY.out).mono ?_); rintro e w7 ⟨rfl, hb7⟩; have hbi7 := below_step HBI.out hb7; have ho7 := Kd.R_below HO.out hb7) | ((with_reducible refine gate_builtin (b := .append) (xs := #[.tmp 75, .tmp 78]) rfl ?_); at_builtin; refine Kd.R_append (Kd.int .u64) (w0 := W) W.heap.size rfl (.tmp 75) (.tmp 78) 22 29 (.int .u64 0) 8 rfl Try.underlying22 hk_infoTw rfl (by decide) (by omega) u11 o y [.int .u64 y] (fun _ => True) (fun _ => False) rfl rfl ?aP (fun _ hk => hk.elim) ?aF ?aO ?aB ?aS ?aL ?_; (case aP => exact rfl); (case aF => exact (fun _ _ => trivial)); (case aO => exact ho7); (case aB => exact hbi7); (case aS => exact hbi7.size); (case aL => exact HLM.out); intro v8 w8 ho8 hb8 hg8 hat8))
                have HB8 := Aside0.mk hb8
                have HO8 := Aside0.mk ho8
                have HI8 := Aside0.mk (show (i + 1) + k1 = rs.length by have := HI.out; omega)
                have HOL8 := Aside0.mk (show (o ++ [y]).length = i + 1 by rw [List.length_append, List.length_singleton, HOL.out])
                clear hb8 ho8 hg8 hat8 hbi7 ho7 HBI HO HI HOL HLM
                go_wp2
                go_roundg k1
                case rel => exact ⟨i + 1, o ++ [y], by go_num, HI8, HA2, HO8, HOL8, HB8⟩
                case measure => exact Nat.lt_succ_self _
          | succ q =>
            have H := HA.out
            clear HA
            simp only [tree_Tree_Values.l1] at H
            by_cases hq : (L.getD q []).length < 4294967296
            · rw [if_pos hq] at H
              obtain ⟨NX, hNX, H⟩ := Option.bind_eq_some_iff.1 H
              obtain ⟨ad4, A4, c4, e4, hx4, hl4, hC4⟩ := hk_at2 HT1.out q (by have := HKN.out; have := HN.out; omega)
              cases e4
              obtain ⟨lq, hlq⟩ : ∃ lq, lq = L.getD q [] := ⟨_, rfl⟩
              rw [← hlq] at hx4 hl4 hC4 hNX hq
              have HQL := Aside0.mk hq
              have HNX := Aside0.mk hNX
              have HA := Aside0.mk H
              have HX4 := Aside0.mk (Kd.C_below hC4 HB.out)
              have HL4 := Aside0.mk hl4
              have hx4 := pw_cell_below HB.out hx4
              have hgc := pw_cell_below HB.out HGC.out
              have hqn : q < 4294967296 := by have := HKN.out; have := HN.out; have := HL1.out; omega
              have hqL : q < L.length := by have := HKN.out; have := HN.out; omega
              have c1 : decide (0 ≤ (q : Int)) = true := decide_eq_true (by omega)
              have c2 : (0 ≤ (q : Int)) = True := eq_true (by omega)
              have c3 : ((q : Int) < (L.length : Int)) = True := eq_true (by omega)
              have c4' : (q < L.length) = True := eq_true hqL
              rw [show (((q + 1 : Nat) : Int) - 1) = (q : Int) by omega]
              clear hqL hC4 hl4 hq hNX H hlq
              go_wp2
              have HW := Aside0.mk (Below.refl W.heap.size W)
              clear c1 c2 c3 c4' hgc
              go_loopg [8, 52] lq.length (fun kq v8 v52 w' => ∃ (i : Nat) (nx : List (List Int)), v52 = .int .i64 (i : Int) ∧ Aside0 (i + kq = lq.length) ∧ Aside0 (tree_Tree_Values.l2 k rs (lq.drop i) i nx = some NX) ∧ Aside0 (Kd.N (Kd.slice 29 (Kd.int .u64)) 22 w' W.heap.size (fun _ => True) v8 nx) ∧ Aside0 (nx.length = i) ∧ Aside0 (Below W.heap.size W w'))
              case atStart => exact ⟨0, [], rfl, ⟨Nat.zero_add _⟩, HNX, ⟨Kd.N_nil _ _ _ _ _⟩, ⟨rfl⟩, HW⟩
              case round =>
                clear HNX HW
                obtain ⟨i, nx, rfl, HI, HAI, HO, HOL, HBI⟩ := hrel
                have hi := HI.out
                cases gk with
                | zero =>
                  obtain ⟨A8, c8, rfl⟩ := Kd.N_slice HO.out
                  have hil : i = lq.length := by omega
                  subst hil
                  rw [List.drop_length] at HAI
                  have hO := Option.some.inj HAI.out
                  subst hO
                  have q1 : decide ((lq.length : Int) < (lq.length : Int)) = false := decide_eq_false (by omega)
                  have q2 : (lq.length < lq.length) = False := eq_false (by omega)
                  have q3 : decide (lq.length < lq.length) = false := decide_eq_false (by omega)
                  have HR8 := Aside0.mk (Kd.N_reads' HO.out).2.2
                  have HL8 := Aside0.mk (Kd.N_reads' HO.out).2.1
                  have HB8 := Aside0.mk (below_step HB.out HBI.out)
                  have HKQ := Aside0.mk (show q ≤ n by have := HKN.out; omega)
                  clear hi HAI HO HBI HI
                  go_wp2
                  go_roundg q
                  case rel => exact ⟨nx, A8, c8, rfl, by first | rfl | go_num, HA, HKQ, HL8, HR8, HB8⟩
                  case measure => exact Nat.lt_succ_self _
                | succ k1 =>
                  have hil : i < lq.length := by omega
                  obtain ⟨ad5, A5, c5, e5, hx5, hl5, hC5⟩ := hk_at1 HX4.out i hil
                  cases e5
                  have hd : lq.drop i = lq.getD i [] :: lq.drop (i + 1) := by rw [List.drop_eq_getElem_cons hil, List.getD_eq_getElem?_getD, List.getElem?_eq_getElem hil]; rfl
                  rw [hd] at HAI
                  generalize lq.getD i [] = x at hx5 hl5 hC5 HAI
                  have hAI := HAI.out
                  simp only [tree_Tree_Values.l2] at hAI
                  by_cases hir : i / 2 < rs.length
                  · rw [if_pos hir] at hAI
                    obtain ⟨y, hy, hA2⟩ := Option.bind_eq_some_iff.1 hAI
                    obtain ⟨ad9, A9, c9, e9, hx9, hl9, hC9⟩ := hk_at1 HCR.out (i / 2) hir
                    cases e9
                    generalize rs.getD (i / 2) [] = z at hx9 hl9 hC9 hy
                    have HY := Aside0.mk hy
                    have HA2 := Aside0.mk hA2
                    have HX5 := Aside0.mk (Kd.C_below hC5 HBI.out)
                    have HL5 := Aside0.mk hl5
                    have hx5 := pw_cell_below HBI.out hx5
                    have HX9 := Aside0.mk (Kd.C_below hC9 HBI.out)
                    have HL9 := Aside0.mk hl9
                    have hx9 := pw_cell_below HBI.out hx9
                    have c1 : decide ((i : Int) < (lq.length : Int)) = true := decide_eq_true (by omega)
                    have c2 : (i < lq.length) = True := eq_true hil
                    have c3 : (0 ≤ (i : Int)) = True := eq_true (by omega)
                    have c4 : ((i : Int) < (lq.length : Int)) = True := eq_true (by omega)
                    have d1 : (0 ≤ (i : Int) / 2) = True := eq_true (by omega)
                    have d2 : ((i : Int) / 2 < (rs.length : Int)) = True := eq_true (by omega)
                    have d3 : ((i : Int) / 2).toNat = i / 2 := by omega
                    have hib : i < 4294967296 := by have := HQL.out; omega
                    have HLM := Aside0.mk (show (nx.length + 1) * 24 ≤ 140737488355328 by have := HOL.out; omega)
                    clear HAI hAI hd hA2 hy hi hl5 hC5 hl9 hC9 hir
                    have HAK := Aside0.mk (show ∀ k, wr.heap.size ≤ k → True ∧ some k ≠ u8.ownBlock from fun k hk => ⟨trivial, fun e => by have := Kd.N_lt HO.out _ e.symm; omega⟩)
                    go_wp2_with (first | (go_at_call 31; (with_reducible refine (tree_rest.calls k A9 c9 z A5 c5 x y _ HX9.out HL9.out HX5.out HL5.out HY.out).mono ?_); rintro e w7 ⟨v7, rfl, hr7, hb7⟩; obtain ⟨A7, c7, rfl⟩ := Kd.R_slice hr7; have hbi7 := below_step HBI.out hb7; have ho7 := Kd.N_below HO.out hb7; have hl7 := (Kd.R_reads' hr7).2.1; have hf7 : Kd.F (Kd.int .u64) w7 (fun k => wr.heap.size ≤ k) A7 y.length y := Kd.F_mono (Kd.R_F (Kd.R_bound hr7)) (fun k hk => hk.2.1)) | ((with_reducible refine gate_builtin (b := .append) (xs := #[.tmp 57, .tmp 65]) rfl ?_); at_builtin; refine Kd.N_append (Kd.slice 29 (Kd.int .u64)) (w0 := W) W.heap.size rfl (.tmp 57) (.tmp 65) 46 22 (.slice none 0 0) 24 rfl Try.underlying46 hk_infoTu rfl (by decide) (by omega) u8 nx y [.slice A7 y.length c7] (fun _ => True) (fun k => wr.heap.size ≤ k) rfl ?aX ?aP ?aK ?aF ?aO ?aB ?aS ?aL ?_; (case aX => rfl); (case aP => exact Kd.FK_slice_mk hl7 hf7); (case aK => exact HAK.out); (case aF => exact (fun _ _ => trivial)); (case aO => exact ho7); (case aB => exact hbi7); (case aS => exact hbi7.size); (case aL => exact HLM.out); intro v8 w8 ho8 hb8 hg8 hat8))
                    have HB8 := Aside0.mk hb8
                    have HO8 := Aside0.mk ho8
                    have HI8 := Aside0.mk (show (i + 1) + k1 = lq.length by have := HI.out; omega)
                    have HOL8 := Aside0.mk (show (nx ++ [y]).length = i + 1 by rw [List.length_append, List.length_singleton, HOL.out])
                    clear hb8 ho8 hg8 hat8 hbi7 ho7 HBI HO HI HOL HLM HAK hr7 hl7 hf7 d1 d2 d3
                    go_wp2
                    go_roundg k1
                    case rel => exact ⟨i + 1, nx ++ [y], by go_num, HI8, HA2, HO8, HOL8, HB8⟩
                    case measure => exact Nat.lt_succ_self _
                  · rw [if_neg hir] at hAI; cases hAI
            · rw [if_neg hq] at H; cases H
      · rw [if_neg hRS] at h; cases h
    · rw [if_neg h0] at h; cases h

/-! ### poly_Derive: function 33 -/
def poly_Derive.l0 : Nat → List Int → List Int → Int → Option (List Int)
  | 0, _, _, _ => none
  | k + 1, x0, x3, x4 => if x4 < (x0.length : Int) then (if 0 ≤ x4 then ((gold_Mul.f (rd x0 x4) (IntKind.u64.wrap (x4))).bind fun t350 => (if x3.length < 17592186044416 then (poly_Derive.l0 k x0 (x3 ++ [t350]) (wrap64 (x4 + 1))) else (none))) else (none)) else ((poly_Trim.f k x3).bind fun t354 => (some t354))
def poly_Derive.f (k : Nat) (l0 : List Int) : Option (List Int) := poly_Derive.l0 k l0 ([] : List Int) 1
set_option maxHeartbeats 80000000 in
set_option maxRecDepth 100000 in
theorem poly_Derive.calls (k : Nat) (A0 : Option Addr) (c0 : Nat) (l0 : List Int) (r : List Int) (w : World) (hr0 : Kd.C (Kd.int .u64) w A0 l0.length l0) (hc0 : l0.length ≤ c0) (h : poly_Derive.f k l0 = some r) :
    Calls Try.prog 33 #[.slice A0 l0.length c0] w fun e w' => ∃ v0_ : Value, e = .returned (v0_) ∧ Kd.R (Kd.int .u64) 29 w' w.heap.size (fun _ => True) v0_ r ∧ Below w.heap.size w w' := by
  have HR0 := Aside0.mk hr0
  have HC0 := Aside0.mk hc0
  clear hr0 hc0
  have HB := Aside0.mk (Below.refl w.heap.size w)
  have H : (poly_Derive.l0 k l0 ([] : List Int) 1) = some r := h
  clear h
  have H' := Aside0.mk H
  clear H
  go_enter Try.func33, Try.ntmps33
  go_wp2
  go_loopg [3, 4] k (fun kq v3 v4 w' => ∃ (x3_1 : List Int) (x4_1 : Int), v4 = .int .i64 x4_1 ∧ Aside0 (poly_Derive.l0 kq l0 x3_1 x4_1 = some r) ∧ Aside0 (kq ≤ k) ∧ Aside0 (Kd.R (Kd.int .u64) 29 w' w.heap.size (fun _ => True) v3 x3_1) ∧ Aside0 (Below w.heap.size w w'))
  case atStart => exact ⟨(([] : List Int)), (1), (by first | rfl | (simp; done) | (simp [*]; done)), H', ⟨Nat.le_refl _⟩, ⟨by first | exact Kd.R_nil _ _ _ _ _ | exact Kd.N_nil _ _ _ _ _ | exact Kd.V_nil _ _ _ _ _ | exact Kd.Q_nil _ _ _ _ _ | exact Kd.S_nil _ _ _ _ _⟩, ⟨by repeat (first | (with_reducible first | exact HB.out | apply below_alloc | apply pw_below_drewN | apply below_drew1) | exact HB.out)⟩⟩
  case round =>
    clear H'
    obtain ⟨x3_1, x4_1, rfl, HA, HK1, HO_3, HB⟩ := hrel
    cases gk with
    | zero => exact absurd HA.out (by simp [poly_Derive.l0])
    | succ k1 =>
      have H := HA.out
      clear HA
      simp only [poly_Derive.l0] at H
      by_cases c2 : x4_1 < (l0.length : Int)
      · rw [if_pos c2] at H
        have c2b0 : decide (x4_1 < (l0.length : Int)) = true := decide_eq_true c2
        clear c2
        by_cases c3 : 0 ≤ x4_1
        · rw [if_pos c3] at H
          have c3b0 : decide (0 ≤ x4_1) = true := decide_eq_true c3
          clear c3
          replace H := Option.bind_eq_some_iff.mp H
          obtain ⟨t350, A40, H⟩ := H
          replace H : (if x3_1.length < 17592186044416 then (poly_Derive.l0 k1 l0 (x3_1 ++ [t350]) (wrap64 (x4_1 + 1))) else (none)) = some r := H
          have A4 := Aside0.mk A40
          clear A40
          by_cases c5 : x3_1.length < 17592186044416
          · rw [if_pos c5] at H
            have LMc5 := Aside0.mk c5
            clear c5
            obtain ⟨y351, hy351⟩ : ∃ y_ : List Int, y_ = (x3_1 ++ [t350]) := ⟨_, rfl⟩
            replace H : (poly_Derive.l0 k1 l0 y351 (wrap64 (x4_1 + 1))) = some r := by first | (rw [hy351]; with_reducible exact H) | (have H2_ := (Option.bind_some _ _).symm.trans H; rw [hy351]; with_reducible exact H2_) | (have H2_ := (Option.bind_some _ _).symm.trans H; with_reducible exact H2_) | with_reducible exact H | (rw [hy351]; exact H) | exact H
            have Ny351 := Aside0.mk hy351
            clear hy351
            have H' := Aside0.mk H
            clear H
            have p349 : 0 ≤ (x4_1 : Int) := of_decide_eq_true (by first | (with_reducible assumption) | assumption)
            have q349 : x4_1 < (l0.length : Int) := of_decide_eq_true (by first | (with_reducible assumption) | assumption)
            obtain ⟨ad349, e349, hx349_0⟩ := Kd.at_int HR0.out x4_1 p349 q349
            cases e349
            replace hx349_0 := (HB.out.cell (World.block_lt_of_cell? w _ hx349_0)).trans hx349_0
            replace p349 := eq_true p349
            replace q349 := eq_true q349
            go_wp2_with (first | ((with_reducible refine gate_callee (f := 28) rfl ?_); refine goesL_ (some 18) rfl rfl Try.func28 (by kernel_rfl) rfl #[.int .u64 (rd l0 x4_1), .int .u64 (IntKind.u64.wrap (x4_1))] rfl (by (try simp only [List.map_toArray, List.map_cons, List.map_nil]); first | done | rfl | (simp only [List.length_drop, List.length_take]; rfl)) ?_; (with_reducible refine (gold_Mul.calls (rd l0 x4_1) (IntKind.u64.wrap (x4_1)) t350 _ A4.out).mono ?_); rintro e w6 ⟨rfl, hb⟩; refine ⟨_, rfl, ?_⟩; have n0_ := Aside0.mk (Kd.R_below (by (with_reducible repeat (first | apply Kd.R_alloc | apply Kd.R_drewN | apply Kd.R_drew)); exact HO_3.out) hb); have n1_ := Aside0.mk (below_step (by repeat (first | (with_reducible first | exact HB.out | apply below_alloc | apply pw_below_drewN | apply below_drew1) | exact HB.out)) hb); clear HO_3; clear HB; have HO_3 := n0_; have HB := n1_; clear n0_ n1_; (try clear hb); (try clear hb2); (try clear hk); (try clear hi)) | (go_at_call 28; (with_reducible refine (gold_Mul.calls (rd l0 x4_1) (IntKind.u64.wrap (x4_1)) t350 _ A4.out).mono ?_); rintro e w6 ⟨rfl, hb⟩; have n0_ := Aside0.mk (Kd.R_below (by (with_reducible repeat (first | apply Kd.R_alloc | apply Kd.R_drewN | apply Kd.R_drew)); exact HO_3.out) hb); have n1_ := Aside0.mk (below_step (by repeat (first | (with_reducible first | exact HB.out | apply below_alloc | apply pw_below_drewN | apply below_drew1) | exact HB.out)) hb); clear HO_3; clear HB; have HO_3 := n0_; have HB := n1_; clear n0_ n1_; (try clear hb); (try clear hb2); (try clear hk); (try clear hi)) | ((with_reducible refine gate_builtin (b := .append) (xs := #[.tmp 11, .tmp 19]) rfl ?_); at_builtin; refine Kd.R_append (Kd.int .u64) (w0 := w) w.heap.size rfl (.tmp 11) (.tmp 19) 22 29 (.int .u64 0) 8 rfl Try.underlying22 info29 rfl (by decide) (by omega) u3 x3_1 t350 [.int .u64 t350] (fun _ => True) (fun _ => False) rfl rfl ?aP (fun _ hk => hk.elim) ?aF ?aO ?aB ?aS ?aL ?_; (case aP => exact rfl); (case aB => exact (by repeat (first | (with_reducible first | exact HB.out | apply below_alloc | apply pw_below_drewN | apply below_drew1) | exact HB.out))); (case aF => exact (fun _ _ => trivial)); (case aO => exact (by (with_reducible repeat (first | apply Kd.R_alloc | apply Kd.R_drewN | apply Kd.R_drew)); exact HO_3.out)); (case aS => exact (below_size (by repeat (first | (with_reducible first | exact HB.out | apply below_alloc | apply pw_below_drewN | apply below_drew1) | exact HB.out)))); (case aL => have := LMc5.out; omega); intro v352 w7 ho hb hg hat; rw [← Ny351.out] at ho; have n0_ := Aside0.mk (hb); have n1_ := Aside0.mk (ho); clear HB; clear HO_3; have HB := n0_; have HO353 := n1_; clear n0_ n1_; clear ho hb hg hat))
            (first | go_roundg k1 | (simp only [add_plain] at *; go_roundg k1))
            case measure => have := HK1.out; omega
            case rel => exact ⟨(y351), (wrap64 (x4_1 + 1)), (by first | rfl | (simp; done) | (simp [*]; done)), H', ⟨by have := HK1.out; omega⟩, ⟨by (with_reducible repeat (first | apply Kd.R_alloc | apply Kd.R_drewN | apply Kd.R_drew)); exact HO353.out⟩, ⟨by repeat (first | (with_reducible first | exact HB.out | apply below_alloc | apply pw_below_drewN | apply below_drew1) | exact HB.out)⟩⟩
          · rw [if_neg c5] at H
            exact absurd H (by simp)
        · rw [if_neg c3] at H
          exact absurd H (by simp)
      · rw [if_neg c2] at H
        have c2b0 : decide (x4_1 < (l0.length : Int)) = false := decide_eq_false c2
        clear c2
        replace H := Option.bind_eq_some_iff.mp H
        obtain ⟨t354, A80, H⟩ := H
        replace H : (some t354) = some r := H
        have A8 := Aside0.mk A80
        clear A80
        obtain rfl := Option.some.inj H
        obtain ⟨Ao9, co9, eo9⟩ := Kd.R_slice HO_3.out
        subst eo9
        go_wp2_with (first | ((with_reducible refine gate_callee (f := 30) rfl ?_); refine goesL_ (some 22) rfl rfl Try.func30 (by kernel_rfl) rfl #[.slice Ao9 x3_1.length co9] rfl (by (try simp only [List.map_toArray, List.map_cons, List.map_nil]); first | done | rfl | (simp only [List.length_drop, List.length_take]; rfl)) ?_; (with_reducible refine (poly_Trim.calls k1 _ _ x3_1 t354 _ ?side1 ?side2 A8.out).mono ?_); (case side1 => repeat (first | exact (Kd.R_reads' HO_3.out).2.2 | (with_reducible refine Kd.C_alloc ?_ _) | (with_reducible refine Kd.C_drewN ?_ _) | (with_reducible refine Kd.C_drew ?_))); (case side2 => exact (Kd.R_reads' HO_3.out).2.1); rintro e w10 ⟨v355, rfl, ho0, hb⟩; refine ⟨_, rfl, ?_⟩; have n0_ := Aside0.mk (Kd.R_elder' (by (with_reducible repeat (first | apply Kd.R_alloc | apply Kd.R_drewN | apply Kd.R_drew)); exact HO_3.out) (Kd.R_base ho0) hb); have n1_ := Aside0.mk (Kd.R_lower (Kd.R_new' ho0 (Kd.R_lt (by (with_reducible repeat (first | apply Kd.R_alloc | apply Kd.R_drewN | apply Kd.R_drew)); exact HO_3.out))) (below_size (by repeat (first | (with_reducible first | exact HB.out | apply below_alloc | apply pw_below_drewN | apply below_drew1) | exact HB.out)))); have n2_ := Aside0.mk (below_step (by repeat (first | (with_reducible first | exact HB.out | apply below_alloc | apply pw_below_drewN | apply below_drew1) | exact HB.out)) hb); clear HO_3; clear HB; have HO_3 := n0_; have HO356 := n1_; have HB := n2_; clear n0_ n1_ n2_; (try clear hb); (try clear hb2); (try clear hk); (try clear hi); (try clear ho0)) | (go_at_call 30; (with_reducible refine (poly_Trim.calls k1 _ _ x3_1 t354 _ ?side1 ?side2 A8.out).mono ?_); (case side1 => repeat (first | exact (Kd.R_reads' HO_3.out).2.2 | (with_reducible refine Kd.C_alloc ?_ _) | (with_reducible refine Kd.C_drewN ?_ _) | (with_reducible refine Kd.C_drew ?_))); (case side2 => exact (Kd.R_reads' HO_3.out).2.1); rintro e w10 ⟨v355, rfl, ho0, hb⟩; have n0_ := Aside0.mk (Kd.R_elder' (by (with_reducible repeat (first | apply Kd.R_alloc | apply Kd.R_drewN | apply Kd.R_drew)); exact HO_3.out) (Kd.R_base ho0) hb); have n1_ := Aside0.mk (Kd.R_lower (Kd.R_new' ho0 (Kd.R_lt (by (with_reducible repeat (first | apply Kd.R_alloc | apply Kd.R_drewN | apply Kd.R_drew)); exact HO_3.out))) (below_size (by repeat (first | (with_reducible first | exact HB.out | apply below_alloc | apply pw_below_drewN | apply below_drew1) | exact HB.out)))); have n2_ := Aside0.mk (below_step (by repeat (first | (with_reducible first | exact HB.out | apply below_alloc | apply pw_below_drewN | apply below_drew1) | exact HB.out)) hb); clear HO_3; clear HB; have HO_3 := n0_; have HO356 := n1_; have HB := n2_; clear n0_ n1_ n2_; (try clear hb); (try clear hb2); (try clear hk); (try clear hi); (try clear ho0)))
        go_ret
        exact ⟨_, by first | rfl | (simp [errW_none, errW_some] <;> rfl) | (simp [*, errW_none, errW_some] <;> rfl), by (with_reducible repeat (first | apply Kd.R_alloc | apply Kd.R_drewN | apply Kd.R_drew)); exact Kd.R_mono HO356.out (fun _ hk => trivial), by repeat (first | (with_reducible first | exact HB.out | apply below_alloc | apply pw_below_drewN | apply below_drew1) | exact HB.out)⟩

end Go.Proofs.Ytkgakohgbbapaaa.PTreeThrough
