-- Written for this claim by wip/gen/mk.sh, this session's own driver over the kit's print
import Derived.Test.YtkgakohgbbapaaaPTreeValuesx0
import Derived.Test.YtkgakohgbbapaaaPTreeValuesx6
import Derived.Test.YtkgakohgbbapaaaPTreeValuesx7
import Derived.Test.YtkgakohgbbapaaaPTreeValuesx10
namespace Go.Proofs.Ytkgakohgbbapaaa.PTreeValues
open Go.RowKit Go.Proofs.YtkgakohgbbapaaaW.PrintWords Go.Proofs.YtkgakohgbbapaaaW.PrintLast Go.Proofs.YtkgakohgbbapaaaW.PrintMore
attribute [local go_sem] max2_int min2_int max_two min_two max_three min_three max_four min_four   -- for this text's walks alone
set_option linter.unusedVariables false
set_option linter.unusedSimpArgs false

/-! ### abacistlaw33_TreeValues: function 5 (by hand) -/
def abacistlaw33_TreeValues.l (k : Nat) (pts p : List Int) : List Int → Nat → Option Bool
  | [], _ => some true
  | v :: vs, i => if i < pts.length then (abacistref07_At.f k p (pts.getD i 0)).bind fun x => if v = x then abacistlaw33_TreeValues.l k pts p vs (i + 1) else none else none
def abacistlaw33_TreeValues.f (k : Nat) (l0 l1 : List Int) : Option Bool :=
  (abacistlaw33_awake.f k).bind fun b => if b = true then (if l0.length = 0 ∨ 20 < l0.length ∨ 30 < l1.length then some true else
    (tree_New.f k l0).bind fun L => (tree_Tree_Values.f k L l1).bind fun v => if v.2 = 0 ∧ v.1.length = l0.length then abacistlaw33_TreeValues.l k l0 l1 v.1 0 else none) else none
set_option maxHeartbeats 4000000 in
set_option maxRecDepth 100000 in
theorem abacistlaw33_TreeValues.calls (k : Nat) (A0 : Option Addr) (c0 : Nat) (l0 : List Int) (A1 : Option Addr) (c1 : Nat) (l1 : List Int) (w : World) (hr0 : Kd.C (Kd.int .u64) w A0 l0.length l0) (hc0 : l0.length ≤ c0) (hr1 : Kd.C (Kd.int .u64) w A1 l1.length l1) (hc1 : l1.length ≤ c1) (h : abacistlaw33_TreeValues.f k l0 l1 = some true) :
    Calls Try.prog 5 #[.slice A0 l0.length c0, .slice A1 l1.length c1] w fun e w' => e = .returned (.bool true) ∧ Below w.heap.size w w' := by
  have HR0 := Aside0.mk hr0
  have HC0 := Aside0.mk hc0
  have HR1 := Aside0.mk hr1
  have HC1 := Aside0.mk hc1
  clear hr0 hc0 hr1 hc1
  obtain ⟨b, h1, h⟩ := Option.bind_eq_some_iff.1 h
  by_cases hb : b = true
  · rw [if_pos hb] at h
    subst hb
    have H1 := Aside0.mk h1
    clear h1
    by_cases hs : l0.length = 0 ∨ 20 < l0.length ∨ 30 < l1.length
    · clear h
      by_cases s1 : l0.length = 0
      · have p1 : ((l0.length : Int) == 0) = true := beq_iff_eq.2 (by omega)
        have p2 : (l0.length == 0) = true := beq_iff_eq.2 s1
        have p3 : (l0 == []) = true := by rw [List.eq_nil_of_length_eq_zero s1]; rfl
        clear hs s1
        go_enter Try.func5, Try.ntmps5
        go_wp2_with (go_at_call 7; (with_reducible refine (abacistlaw33_awake.calls k true _ H1.out).mono ?_); rintro e w1 ⟨rfl, hb1⟩)
        go_ret
        exact ⟨rfl, hb1⟩
      · have p1 : ((l0.length : Int) == 0) = false := beq_eq_false_iff_ne.2 (by omega)
        have p2 : (l0.length == 0) = false := beq_eq_false_iff_ne.2 s1
        by_cases s2 : 20 < l0.length
        · have p3 : decide ((20 : Int) < (l0.length : Int)) = true := decide_eq_true (by omega)
          have p4 : decide (20 < l0.length) = true := decide_eq_true s2
          have p5 := eq_true s2
          clear hs s1 s2
          go_enter Try.func5, Try.ntmps5
          go_wp2_with (go_at_call 7; (with_reducible refine (abacistlaw33_awake.calls k true _ H1.out).mono ?_); rintro e w1 ⟨rfl, hb1⟩)
          go_ret
          exact ⟨rfl, hb1⟩
        · have s3 : 30 < l1.length := by omega
          have p3 : decide ((20 : Int) < (l0.length : Int)) = false := decide_eq_false (by omega)
          have p4 : decide (20 < l0.length) = false := decide_eq_false s2
          have p5 : decide ((30 : Int) < (l1.length : Int)) = true := decide_eq_true (by omega)
          have p6 : decide (30 < l1.length) = true := decide_eq_true s3
          have p7 := eq_true s3
          clear hs s1 s2 s3
          go_enter Try.func5, Try.ntmps5
          go_wp2_with (go_at_call 7; (with_reducible refine (abacistlaw33_awake.calls k true _ H1.out).mono ?_); rintro e w1 ⟨rfl, hb1⟩)
          go_ret
          exact ⟨rfl, hb1⟩
    · rw [if_neg hs] at h
      obtain ⟨L, h2, h⟩ := Option.bind_eq_some_iff.1 h
      obtain ⟨⟨v, ve⟩, h3, h⟩ := Option.bind_eq_some_iff.1 h
      by_cases hv : ve = 0 ∧ v.length = l0.length
      · rw [if_pos hv] at h
        obtain ⟨rfl, hvl⟩ := hv
        have H2 := Aside0.mk h2
        have H3 := Aside0.mk h3
        have H4 := Aside0.mk h
        have HVL := Aside0.mk hvl
        have HL0 := Aside0.mk (show l0.length ≤ 20 by omega)
        have p1 : ((l0.length : Int) == 0) = false := beq_eq_false_iff_ne.2 (by omega)
        have p2 : (l0.length == 0) = false := beq_eq_false_iff_ne.2 (by omega)
        have p3 : decide ((20 : Int) < (l0.length : Int)) = false := decide_eq_false (by omega)
        have p4 : decide (20 < l0.length) = false := decide_eq_false (by omega)
        have p5 : decide ((30 : Int) < (l1.length : Int)) = false := decide_eq_false (by omega)
        have p6 : decide (30 < l1.length) = false := decide_eq_false (by omega)
        have p7 : ((v.length : Int) != (l0.length : Int)) = false := by simp [hvl]
        have p8 : ((v.length : Int) == (l0.length : Int)) = true := by simp [hvl]
        have p9 : (v.length == l0.length) = true := by simp [hvl]
        clear hs h2 h3 h hvl
        go_enter Try.func5, Try.ntmps5
        go_wp2_with (first
          | (go_at_call 7; (with_reducible refine (abacistlaw33_awake.calls k true _ H1.out).mono ?_); rintro e w1 ⟨rfl, hb1⟩)
          | (go_at_call 8; (with_reducible refine (tree_New.calls k A0 c0 l0 L _ (Kd.C_below HR0.out hb1) HC0.out H2.out).mono ?_); rintro e w2 ⟨g, rfl, hT, hg, hb2⟩; have HT := Aside0.mk hT; have HB2 := Aside0.mk (below_step hb1 hb2); clear hT hg hb1 hb2)
          | (go_at_call 20; (with_reducible refine (tree_Tree_Values.calls k g (hk_ofs l0) L A1 c1 l1 v 0 _ HT.out (Kd.C_below HR1.out HB2.out) HC1.out H3.out).mono ?_); rintro e w3 ⟨v3, rfl, hr3, hb3⟩; obtain ⟨Av, cv, rfl⟩ := Kd.R_slice hr3; have HV := Aside0.mk (Kd.R_reads' hr3).2.2; have HB3 := Aside0.mk (below_step HB2.out hb3); clear hr3 hb3))
        clear p1 p2 p3 p4 p5 p6 p7 p8 p9
        have HB0 := Aside0.mk (Below.refl w3.heap.size w3)
        go_loopg [9] v.length (fun kq v9 w' => ∃ (i : Nat), v9 = .int .i64 (i : Int) ∧ Aside0 (i + kq = v.length) ∧ Aside0 (abacistlaw33_TreeValues.l k l0 l1 (v.drop i) i = some true) ∧ Aside0 (Below w3.heap.size w3 w'))
        case atStart => exact ⟨0, rfl, ⟨Nat.zero_add _⟩, H4, HB0⟩
        case round =>
          clear H4 HB0
          obtain ⟨i, rfl, HI, HAI, HBI⟩ := hrel
          have hi := HI.out
          cases gk with
          | zero =>
            have hil : i = v.length := by omega
            subst hil
            have q1 : decide ((v.length : Int) < (v.length : Int)) = false := decide_eq_false (by omega)
            have q2 : (v.length < v.length) = False := eq_false (by omega)
            have q3 : decide (v.length < v.length) = false := decide_eq_false (by omega)
            clear hi
            go_wp2
            go_ret
            exact ⟨rfl, below_step HB3.out HBI.out⟩
          | succ k1 =>
            have hil : i < v.length := by omega
            obtain ⟨ad5, e5, hx5⟩ := Kd.at_int HV.out (i : Int) (by omega) (by omega)
            subst e5
            have hd : v.drop i = v.getD i 0 :: v.drop (i + 1) := by rw [List.drop_eq_getElem_cons hil, List.getD_eq_getElem?_getD, List.getElem?_eq_getElem hil]; rfl
            rw [hd] at HAI
            rw [Int.toNat_natCast, show rd v (i : Int) = v.getD i 0 by unfold rd; rw [Int.toNat_natCast]] at hx5
            generalize v.getD i 0 = x at hx5 HAI
            have hAI := HAI.out
            simp only [abacistlaw33_TreeValues.l] at hAI
            by_cases hir : i < l0.length
            · rw [if_pos hir] at hAI
              obtain ⟨y, hy, hA2⟩ := Option.bind_eq_some_iff.1 hAI
              by_cases hxy : x = y
              · rw [if_pos hxy] at hA2
                subst hxy
                obtain ⟨ad9, e9, hx9⟩ := Kd.at_int HR0.out (i : Int) (by omega) (by omega)
                subst e9
                rw [Int.toNat_natCast, show rd l0 (i : Int) = l0.getD i 0 by unfold rd; rw [Int.toNat_natCast]] at hx9
                generalize l0.getD i 0 = z at hx9 hy
                have HY := Aside0.mk hy
                have HA2 := Aside0.mk hA2
                have hx5 := pw_cell_below HBI.out hx5
                have hx9 := pw_cell_below HBI.out (pw_cell_below HB3.out hx9)
                have HRP := Aside0.mk (Kd.C_below (Kd.C_below HR1.out HB3.out) HBI.out)
                have c1' : decide ((i : Int) < (v.length : Int)) = true := decide_eq_true (by omega)
                have c2' : (i < v.length) = True := eq_true hil
                have c3' : (0 ≤ (i : Int)) = True := eq_true (by omega)
                have c4' : ((i : Int) < (v.length : Int)) = True := eq_true (by omega)
                have d1 : (i < l0.length) = True := eq_true hir
                have d2 : ((i : Int) < (l0.length : Int)) = True := eq_true (by omega)
                have hib : i < 4294967296 := by have := HL0.out; omega
                clear HAI hAI hd hA2 hy hi hir
                go_wp2
                refine start_ (n := 11) (S := fun w' => w'.cell? (ad5.add i) = some (.int .u64 x) ∧ w'.cell? (ad9.add i) = some (.int .u64 z)) (ds := []) #[false, false, false, false, false, false, false, false, false, false, false] (by kernel_rfl) rfl rfl ⟨hx5, hx9⟩ (fun hHeld => ?_)
                refine pure_ (i := 0) (N := some 57) (v := ?_) (a' := ?_) #[true, false, false, false, false, false, false, false, false, false, false] rfl rfl (by kernel_rfl) (fun _ _ _ h => h) (Or.inl ⟨by rfl, ?_⟩) ?_ ?_
                rotate_left
                · intro w'
                  go_simp
                  with_reducible rfl
                rotate_left
                · simp only [Act.put, List.setIfInBounds_toArray, List.set_cons_zero, List.set_cons_succ, i64_w, i32_w]
                  rfl
                refine pure_ (i := 1) (N := some 58) (v := ?_) (a' := ?_) #[true, true, false, false, false, false, false, false, false, false, false] rfl rfl (by kernel_rfl) (fun _ _ _ h => h) (Or.inl ⟨by rfl, ?_⟩) ?_ ?_
                rotate_left
                · intro w'
                  go_simp
                  with_reducible rfl
                rotate_left
                · simp only [Act.put, List.setIfInBounds_toArray, List.set_cons_zero, List.set_cons_succ, i64_w, i32_w]
                  rfl
                refine pure_ (i := 2) (N := some 59) (v := ?_) (a' := ?_) #[true, true, true, false, false, false, false, false, false, false, false] rfl rfl (by kernel_rfl) (fun _ _ _ h => h) (Or.inl ⟨by rfl, ?_⟩) ?_ ?_
                rotate_left
                · intro w'
                  go_simp
                  with_reducible rfl
                rotate_left
                · simp only [Act.put, List.setIfInBounds_toArray, List.set_cons_zero, List.set_cons_succ, i64_w, i32_w]
                  rfl
                refine pure_ (i := 4) (N := some 61) (v := ?_) (a' := ?_) #[true, true, true, false, true, false, false, false, false, false, false] rfl rfl (by kernel_rfl) (fun _ _ _ h => h) (Or.inl ⟨by rfl, ?_⟩) ?_ ?_
                rotate_left
                · intro w'
                  go_simp
                  with_reducible rfl
                rotate_left
                · simp only [Act.put, List.setIfInBounds_toArray, List.set_cons_zero, List.set_cons_succ, i64_w, i32_w]
                  rfl
                refine pure_ (i := 5) (N := some 62) (v := ?_) (a' := ?_) #[true, true, true, false, true, true, false, false, false, false, false] rfl rfl (by kernel_rfl) (fun _ _ _ h => h) (Or.inl ⟨by rfl, ?_⟩) ?_ ?_
                rotate_left
                · intro w'
                  go_simp
                  with_reducible rfl
                rotate_left
                · simp only [Act.put, List.setIfInBounds_toArray, List.set_cons_zero, List.set_cons_succ, i64_w, i32_w]
                  rfl
                refine pure_ (i := 6) (N := some 63) (v := ?_) (a' := ?_) #[true, true, true, false, true, true, true, false, false, false, false] rfl rfl (by kernel_rfl) (fun _ _ _ h => h) (Or.inl ⟨by rfl, ?_⟩) ?_ ?_
                rotate_left
                · intro w'
                  go_simp
                  with_reducible rfl
                rotate_left
                · simp only [Act.put, List.setIfInBounds_toArray, List.set_cons_zero, List.set_cons_succ, i64_w, i32_w]
                  rfl
                refine pure_ (i := 7) (N := some 64) (v := ?_) (a' := ?_) #[true, true, true, false, true, true, true, true, false, false, false] rfl rfl (by kernel_rfl) (fun _ _ _ h => h) (Or.inl ⟨by rfl, ?_⟩) ?_ ?_
                rotate_left
                · intro w'
                  go_simp
                  with_reducible rfl
                rotate_left
                · simp only [Act.put, List.setIfInBounds_toArray, List.set_cons_zero, List.set_cons_succ, i64_w, i32_w]
                  rfl
                refine take_ (i := 3) (N := some 60) (v := ?_) (a' := ?_) #[true, true, true, true, true, true, true, true, false, false, false] rfl rfl (by kernel_rfl) (fun _ _ _ h => h) (Or.inl ⟨by rfl, ?_⟩) hHeld ?_ ?_
                rotate_left
                · rintro w' ⟨s0, s1⟩
                  go_simp
                  with_reducible rfl
                rotate_left
                · simp only [Act.put, List.setIfInBounds_toArray, List.set_cons_zero, List.set_cons_succ, i64_w, i32_w]
                  rfl
                refine take_ (i := 8) (N := some 65) (v := ?_) (a' := ?_) #[true, true, true, true, true, true, true, true, true, false, false] rfl rfl (by kernel_rfl) (fun _ _ _ h => h) (Or.inl ⟨by rfl, ?_⟩) hHeld ?_ ?_
                rotate_left
                · rintro w' ⟨s0, s1⟩
                  go_simp
                  with_reducible rfl
                rotate_left
                · simp only [Act.put, List.setIfInBounds_toArray, List.set_cons_zero, List.set_cons_succ, i64_w, i32_w]
                  rfl
                refine one_ (i := 9) (N := some 66) #[true, true, true, true, true, true, true, true, true, true, false] rfl rfl (by kernel_rfl) (by decide) (fun K hK => ?_)
                refine goes_ Try.func17 (by kernel_rfl) rfl #[.slice A1 l1.length c1, .int .u64 z] (by rfl) rfl rfl (by (try simp only [List.map_toArray, List.map_cons, List.map_nil]); first | done | rfl) ?_
                with_reducible refine (abacistref07_At.calls k A1 c1 l1 z x _ (Kd.C_drew HRP.out) HC1.out HY.out).mono ?_
                rintro e w6 ⟨rfl, hd6⟩
                refine ⟨_, rfl, ?_⟩
                refine hK.out _ _ ⟨(pw_cell_below hd6.below hx5), (pw_cell_below hd6.below hx9)⟩ (fun hHeld => ?_)
                clear hK K
                refine norm_ (a' := ?_) ?_ ?_
                rotate_left
                · show Act.put _ (some 66) _ = _
                  simp only [Act.put, List.setIfInBounds_toArray, List.set_cons_zero, List.set_cons_succ, i64_w, i32_w]
                  rfl
                refine pure_ (i := 10) (N := some 67) (v := ?_) (a' := ?_) #[true, true, true, true, true, true, true, true, true, true, true] rfl rfl (by kernel_rfl) (fun _ _ _ h => h) (Or.inl ⟨by rfl, ?_⟩) ?_ ?_
                rotate_left
                · intro w'
                  go_simp
                  with_reducible rfl
                rotate_left
                · simp only [Act.put, List.setIfInBounds_toArray, List.set_cons_zero, List.set_cons_succ, i64_w, i32_w]
                  rfl
                refine done_ (by kernel_rfl) ?_
                have hb7 := Aside0.mk (below_step HBI.out (below_step (below_drew1 (Below.refl wr.heap.size wr)) hd6.below))
                have HI7 := Aside0.mk (show (i + 1) + k1 = v.length by have := HI.out; omega)
                clear hHeld hd6 HBI HI hx5 hx9 HRP c1' c2' c3' c4' d1 d2
                go_wp2
                go_roundg k1
                case rel => exact ⟨i + 1, by go_num, HI7, HA2, hb7⟩
                case measure => exact Nat.lt_succ_self _
              · rw [if_neg hxy] at hA2; cases hA2
            · rw [if_neg hir] at hAI; cases hAI
      · rw [if_neg hv] at h; cases h
  · rw [if_neg hb] at h; cases h
def abacistlaw33_TreeValues.Pure : Prop := ∀ (l0 : List Int) (l1 : List Int), l0.length ≤ maxLen → l0.length * 8 ≤ 140737488351232 → (∀ x ∈ l0, (Lit.int .u64 x).wf = true) → l1.length ≤ maxLen → l1.length * 8 ≤ 140737488351232 → (∀ x ∈ l1, (Lit.int .u64 x).wf = true) → ∃ k, abacistlaw33_TreeValues.f k l0 l1 = some true
theorem abacistlaw33_TreeValues.walk (P : abacistlaw33_TreeValues.Pure) (a0 : Option Addr) (len0 cap0 : Nat) (z0 : List Int) (a1 : Option Addr) (len1 cap1 : Nat) (z1 : List Int) (w : World) (w0 : (a0 = none ∧ len0 = 0 ∧ cap0 = 0 ∧ z0 = []) ∨ ∃ x, a0 = some x ∧ len0 ≤ cap0 ∧ cap0 ≤ maxLen ∧ z0.length = cap0 ∧ (∀ i, i < z0.length → w.cell? (x.add i) = some (.int .u64 (z0.getD i 0))) ∧ ∀ n ∈ z0, (Lit.int .u64 n).wf = true) (y0 : len0 * 8 ≤ 140737488351232) (w1 : (a1 = none ∧ len1 = 0 ∧ cap1 = 0 ∧ z1 = []) ∨ ∃ x, a1 = some x ∧ len1 ≤ cap1 ∧ cap1 ≤ maxLen ∧ z1.length = cap1 ∧ (∀ i, i < z1.length → w.cell? (x.add i) = some (.int .u64 (z1.getD i 0))) ∧ ∀ n ∈ z1, (Lit.int .u64 n).wf = true) (y1 : len1 * 8 ≤ 140737488351232) :
    Calls Try.prog 5 #[.slice a0 len0 cap0, .slice a1 len1 cap1] w fun e w' => e = .returned (.bool true) ∧ Below w.heap.size w w' := by
  obtain ⟨l0, rfl, hr0, hm0, hw0, hc0⟩ := ReadsInt.ofRowC w0
  obtain ⟨l1, rfl, hr1, hm1, hw1, hc1⟩ := ReadsInt.ofRowC w1
  obtain ⟨k, h⟩ := P l0 l1 hm0 y0 hw0 hm1 y1 hw1
  exact abacistlaw33_TreeValues.calls k _ _ l0 _ _ l1 w (Kd.C_of_reads (d := (0 : Int)) (h1 := fun _ => rfl) hr0) hc0 (Kd.C_of_reads (d := (0 : Int)) (h1 := fun _ => rfl) hr1) hc1 h

end Go.Proofs.Ytkgakohgbbapaaa.PTreeValues
