-- Written for this claim by wip/gen/mk.sh, this session's own driver over the kit's print
import Derived.Test.YtkgakohgbbapaaaPTreeThroughx0
import Derived.Test.YtkgakohgbbapaaaPTreeThroughx6
import Derived.Test.YtkgakohgbbapaaaPTreeThroughx7
import Derived.Test.YtkgakohgbbapaaaPTreeThroughx11
import Derived.Test.YtkgakohgbbapaaaPTreeThroughx13
namespace Go.Proofs.Ytkgakohgbbapaaa.PTreeThrough
open Go.RowKit Go.Proofs.YtkgakohgbbapaaaW.PrintWords Go.Proofs.YtkgakohgbbapaaaW.PrintLast Go.Proofs.YtkgakohgbbapaaaW.PrintMore
attribute [local go_sem] max2_int min2_int max_two min_two max_three min_three max_four min_four   -- for this text's walks alone
set_option linter.unusedVariables false
set_option linter.unusedSimpArgs false

/-! ### abacistlaw33_TreeThrough: function 6 (by hand) -/
def abacistlaw33_TreeThrough.d2 (l : List Int) (i : Nat) : Nat → Nat → Option Bool
  | 0, _ => some false
  | c + 1, k => (abacistref02_Of.f (l.getD i 0)).bind fun x => (abacistref02_Of.f (l.getD k 0)).bind fun y => if x = y then some true else abacistlaw33_TreeThrough.d2 l i c (k + 1)
def abacistlaw33_TreeThrough.d1 (l : List Int) : Nat → Nat → Option Bool
  | 0, _ => some false
  | c + 1, i => (abacistlaw33_TreeThrough.d2 l i i 0).bind fun b => if b = true then some true else abacistlaw33_TreeThrough.d1 l c (i + 1)
def abacistlaw33_TreeThrough.d3 (k : Nat) (p l y : List Int) : Nat → Nat → Option Bool
  | 0, _ => some true
  | c + 1, i => if i < y.length then (abacistref07_At.f k p (l.getD i 0)).bind fun a => (abacistref02_Of.f (y.getD i 0)).bind fun b => if a = b then abacistlaw33_TreeThrough.d3 k p l y c (i + 1) else none else none
def abacistlaw33_TreeThrough.f (k : Nat) (l0 l1 : List Int) : Option Bool :=
  (abacistlaw33_awake.f k).bind fun b => if b = true then (if l0.length = 0 ∨ 16 < l0.length ∨ 30 < l1.length then some true else
    (tree_New.f k l0).bind fun L => (tree_Tree_Through.f k (hk_ofs l0) L l1).bind fun p =>
      if l1.length = l0.length then (abacistlaw33_TreeThrough.d1 l0 l0.length 0).bind fun d =>
        if d = true then (if p.2 = 13 ∧ p.1.length = 0 then some true else none)
        else if p.2 = 0 ∧ p.1.length ≤ l0.length then (abacistref07_Trim.f k p.1).bind fun tp => (abacistref04_Same.f k p.1 tp).bind fun b1 => if b1 = true then
          (abacistlaw33_TreeThrough.d3 k p.1 l0 l1 l0.length 0).bind fun b2 => (tree_Tree_Values.f k L l1).bind fun v => (tree_Tree_Through.f k (hk_ofs l0) L v.1).bind fun q =>
            if v.2 = 0 ∧ q.2 = 0 then (abacistref07_Trim.f k l1).bind fun ty => (abacistref04_Same.f k q.1 ty).bind fun b3 => if b3 = true then some true else none else none else none else none
      else if p.2 = 19 ∧ p.1.length = 0 then some true else none) else none
set_option maxHeartbeats 4000000 in
set_option maxRecDepth 100000 in
theorem abacistlaw33_TreeThrough.calls (k : Nat) (A0 : Option Addr) (c0 : Nat) (l0 : List Int) (A1 : Option Addr) (c1 : Nat) (l1 : List Int) (w : World) (hr0 : Kd.C (Kd.int .u64) w A0 l0.length l0) (hc0 : l0.length ≤ c0) (hr1 : Kd.C (Kd.int .u64) w A1 l1.length l1) (hc1 : l1.length ≤ c1) (h : abacistlaw33_TreeThrough.f k l0 l1 = some true) :
    Calls Try.prog 6 #[.slice A0 l0.length c0, .slice A1 l1.length c1] w fun e w' => e = .returned (.bool true) ∧ Below w.heap.size w w' := by
  have HR0 := Aside0.mk hr0
  have HC0 := Aside0.mk hc0
  have HR1 := Aside0.mk hr1
  have HC1 := Aside0.mk hc1
  clear hr0 hc0 hr1 hc1
  obtain ⟨b, h1, h⟩ := Option.bind_eq_some_iff.1 h
  by_cases hb : b = true
  · rw [if_pos hb] at h
    subst hb
    have H1 := Aside0.mk h1
    clear h1
    by_cases hs : l0.length = 0 ∨ 16 < l0.length ∨ 30 < l1.length
    · clear h
      by_cases s1 : l0.length = 0
      · have p1 : ((l0.length : Int) == 0) = true := beq_iff_eq.2 (by omega)
        have p2 : (l0.length == 0) = true := beq_iff_eq.2 s1
        have p3 : (l0 == []) = true := by rw [List.eq_nil_of_length_eq_zero s1]; rfl
        clear hs s1
        go_enter Try.func6, Try.ntmps6
        go_wp2_with (go_at_call 7; (with_reducible refine (abacistlaw33_awake.calls k true _ H1.out).mono ?_); rintro e w1 ⟨rfl, hb1⟩)
        go_ret
        exact ⟨rfl, hb1⟩
      · have p1 : ((l0.length : Int) == 0) = false := beq_eq_false_iff_ne.2 (by omega)
        have p2 : (l0.length == 0) = false := beq_eq_false_iff_ne.2 s1
        by_cases s2 : 16 < l0.length
        · have p3 : decide ((16 : Int) < (l0.length : Int)) = true := decide_eq_true (by omega)
          have p4 : decide (16 < l0.length) = true := decide_eq_true s2
          have p5 := eq_true s2
          clear hs s1 s2
          go_enter Try.func6, Try.ntmps6
          go_wp2_with (go_at_call 7; (with_reducible refine (abacistlaw33_awake.calls k true _ H1.out).mono ?_); rintro e w1 ⟨rfl, hb1⟩)
          go_ret
          exact ⟨rfl, hb1⟩
        · have s3 : 30 < l1.length := by omega
          have p3 : decide ((16 : Int) < (l0.length : Int)) = false := decide_eq_false (by omega)
          have p4 : decide (16 < l0.length) = false := decide_eq_false s2
          have p5 : decide ((30 : Int) < (l1.length : Int)) = true := decide_eq_true (by omega)
          have p6 : decide (30 < l1.length) = true := decide_eq_true s3
          have p7 := eq_true s3
          clear hs s1 s2 s3
          go_enter Try.func6, Try.ntmps6
          go_wp2_with (go_at_call 7; (with_reducible refine (abacistlaw33_awake.calls k true _ H1.out).mono ?_); rintro e w1 ⟨rfl, hb1⟩)
          go_ret
          exact ⟨rfl, hb1⟩
    · rw [if_neg hs] at h
      obtain ⟨L, h2, h⟩ := Option.bind_eq_some_iff.1 h
      obtain ⟨⟨p, pe⟩, h3, h⟩ := Option.bind_eq_some_iff.1 h
      have H2 := Aside0.mk h2
      have H3 := Aside0.mk h3
      have HL0 := Aside0.mk (show l0.length ≤ 16 ∧ l1.length ≤ 30 by omega)
      have p1 : ((l0.length : Int) == 0) = false := beq_eq_false_iff_ne.2 (by omega)
      have p2 : (l0.length == 0) = false := beq_eq_false_iff_ne.2 (by omega)
      have p3 : decide ((16 : Int) < (l0.length : Int)) = false := decide_eq_false (by omega)
      have p4 : decide (16 < l0.length) = false := decide_eq_false (by omega)
      have p5 : decide ((30 : Int) < (l1.length : Int)) = false := decide_eq_false (by omega)
      have p6 : decide (30 < l1.length) = false := decide_eq_false (by omega)
      clear hs h2 h3
      by_cases hll : l1.length = l0.length
      · rw [if_pos hll] at h
        obtain ⟨d, h4, h⟩ := Option.bind_eq_some_iff.1 h
        have H4 := Aside0.mk h4
        have H := Aside0.mk h
        have HLL := Aside0.mk hll
        have p7 : ((l1.length : Int) != (l0.length : Int)) = false := by simp [hll]
        have p8 : ((l1.length : Int) == (l0.length : Int)) = true := by simp [hll]
        have p9 : (l1.length == l0.length) = true := by simp [hll]
        clear hll h4 h
        go_enter Try.func6, Try.ntmps6
        go_wp2_with (first
          | (go_at_call 7; (with_reducible refine (abacistlaw33_awake.calls k true _ H1.out).mono ?_); rintro e w1 ⟨rfl, hb1⟩)
          | (go_at_call 8; (with_reducible refine (tree_New.calls k A0 c0 l0 L _ (Kd.C_below HR0.out hb1) HC0.out H2.out).mono ?_); rintro e w2 ⟨g, rfl, hT, hg, hb2⟩; have HT := Aside0.mk hT; have HB2 := Aside0.mk (below_step hb1 hb2); clear hT hg hb1 hb2)
          | (go_at_call 21; (with_reducible refine (tree_Tree_Through.calls k g (hk_ofs l0) L A1 c1 l1 p pe _ HT.out (Kd.C_below HR1.out HB2.out) HC1.out H3.out).mono ?_); rintro e w3 ⟨Ap, cp, rfl, hpl, hpr, hb3⟩; have HP := Aside0.mk hpr; have HPL := Aside0.mk hpl; have HT3 := Aside0.mk (hk_T.below HT.out hb3); have HB3 := Aside0.mk (below_step HB2.out hb3); clear hpl hpr hb3 HT HB2))
        have hl0 : 0 < l0.length := by
          rcases Nat.eq_zero_or_pos l0.length with c | c
          · rw [c] at p1; exact absurd p1 (by decide)
          · exact c
        obtain ⟨ad0, e0, _⟩ := Kd.at_int HR0.out 0 (by omega) (by omega)
        subst e0
        clear p1 p2 p3 p4 p5 p6 p7 p8 p9
        have HB0 := Aside0.mk (Below.refl w3.heap.size w3)
        have HLP := Aside0.mk hl0
        clear hl0
        go_loopg [9] l0.length (fun kq v9 w' => ∃ (i : Nat), v9 = .int .i64 (i : Int) ∧ Aside0 (i + kq = l0.length) ∧ Aside0 (abacistlaw33_TreeThrough.d1 l0 kq i = some d) ∧ Aside0 (Below w3.heap.size w3 w'))
        case atStart => exact ⟨0, rfl, ⟨Nat.zero_add _⟩, H4, HB0⟩
        case round =>
          clear H4 HB0
          obtain ⟨i, rfl, HI, HA, HB⟩ := hrel
          have hi := HI.out
          have hl16 := HL0.out.1
          cases gk with
          | zero =>
            have hil : i = l0.length := by omega
            subst hil
            have hd := Option.some.inj HA.out
            subst hd
            have z1 := H.out
            simp only [Bool.false_eq_true, if_false] at z1
            by_cases hpp : pe = 0 ∧ p.length ≤ l0.length
            · rw [if_pos hpp] at z1
              obtain ⟨tp, h5, z2⟩ := Option.bind_eq_some_iff.1 z1
              obtain ⟨b1, h6, z3⟩ := Option.bind_eq_some_iff.1 z2
              clear z1 z2
              by_cases hb1 : b1 = true
              · rw [if_pos hb1] at z3
                obtain ⟨b2, h7, z4⟩ := Option.bind_eq_some_iff.1 z3
                obtain ⟨⟨v, ve⟩, h8, z5⟩ := Option.bind_eq_some_iff.1 z4
                obtain ⟨⟨q, qe⟩, h9, z6⟩ := Option.bind_eq_some_iff.1 z5
                clear z3 z4 z5
                by_cases hvq : ve = 0 ∧ qe = 0
                · rw [if_pos hvq] at z6
                  obtain ⟨ty, h10, z7⟩ := Option.bind_eq_some_iff.1 z6
                  obtain ⟨b3, h11, z8⟩ := Option.bind_eq_some_iff.1 z7
                  clear z6 z7
                  by_cases hb3 : b3 = true
                  · clear z8
                    obtain ⟨hpe, hpn⟩ := hpp
                    obtain ⟨hve, hqe⟩ := hvq
                    subst hpe hb1 hve hqe hb3
                    have H5 := Aside0.mk h5
                    have H6 := Aside0.mk h6
                    have H7 := Aside0.mk h7
                    have H8 := Aside0.mk h8
                    have H9 := Aside0.mk h9
                    have H10 := Aside0.mk h10
                    have H11 := Aside0.mk h11
                    have q1 : decide ((l0.length : Int) < (l0.length : Int)) = false := decide_eq_false (by omega)
                    have q2 : (l0.length < l0.length) = False := eq_false (by omega)
                    have q3 : decide (l0.length < l0.length) = false := decide_eq_false (by omega)
                    have q4 : decide ((l0.length : Int) < (p.length : Int)) = false := decide_eq_false (by omega)
                    have q5 : decide (l0.length < p.length) = false := decide_eq_false (by omega)
                    have HP4 := Aside0.mk (Kd.C_below HP.out HB.out)
                    clear hi hpn h5 h6 h7 h8 h9 h10 h11 HA hl16
                    go_wp2_with (first
                      | (go_at_call 19; (with_reducible refine (abacistref07_Trim.calls k Ap cp p tp _ HP4.out HPL.out H5.out).mono ?_); rintro e w5 ⟨v5, rfl, hr5, hb5⟩; obtain ⟨A5, c5, rfl⟩ := Kd.R_slice hr5; have HP5 := Aside0.mk (Kd.C_below HP4.out hb5))
                      | (go_at_call 14; (with_reducible refine (abacistref04_Same.calls k Ap cp p A5 c5 tp true _ HP5.out HPL.out (Kd.R_reads' hr5).2.2 (Kd.R_reads' hr5).2.1 H6.out).mono ?_); rintro e w6 ⟨rfl, hd6⟩; have HB6 := Aside0.mk (below_step HB.out (below_step hb5 hd6.below)); clear hr5 hb5 hd6 HP5 HP4))
                    clear q1 q2 q3 q4 q5
                    go_loopg [11] l0.length (fun kq v11 w' => ∃ (i : Nat), v11 = .int .i64 (i : Int) ∧ Aside0 (i + kq = l0.length) ∧ Aside0 (abacistlaw33_TreeThrough.d3 k p l0 l1 kq i = some b2) ∧ Aside0 (Below w3.heap.size w3 w'))
                    case atStart => exact ⟨0, rfl, ⟨Nat.zero_add _⟩, H7, HB6⟩
                    case round =>
                      clear H7 HB6 HB
                      obtain ⟨i, rfl, HI, HA, HB⟩ := hrel
                      have hi := HI.out
                      cases gk with
                      | zero =>
                        have hil : i = l0.length := by omega
                        subst hil
                        have q1 : decide ((l0.length : Int) < (l0.length : Int)) = false := decide_eq_false (by omega)
                        have q2 : (l0.length < l0.length) = False := eq_false (by omega)
                        have q3 : decide (l0.length < l0.length) = false := decide_eq_false (by omega)
                        have HY4 := Aside0.mk (Kd.C_below (Kd.C_below HR1.out HB3.out) HB.out)
                        have HT4 := Aside0.mk (hk_T.below HT3.out HB.out)
                        clear hi
                        go_wp2_with (first
                          | (go_at_call 20; (with_reducible refine (tree_Tree_Values.calls k g (hk_ofs l0) L A1 c1 l1 v 0 _ HT4.out HY4.out HC1.out H8.out).mono ?_); rintro e w5 ⟨v5, rfl, hr5, hb5⟩; obtain ⟨A5, c5, rfl⟩ := Kd.R_slice hr5; have HT5 := Aside0.mk (hk_T.below HT4.out hb5); have HY5 := Aside0.mk (Kd.C_below HY4.out hb5))
                          | (go_at_call 21; (with_reducible refine (tree_Tree_Through.calls k g (hk_ofs l0) L A5 c5 v q 0 _ HT5.out (Kd.R_reads' hr5).2.2 (Kd.R_reads' hr5).2.1 H9.out).mono ?_); rintro e w6 ⟨A6, c6, rfl, hl6, hr6, hb6⟩; have HY6 := Aside0.mk (Kd.C_below HY5.out hb6))
                          | (go_at_call 19; (with_reducible refine (abacistref07_Trim.calls k A1 c1 l1 ty _ HY6.out HC1.out H10.out).mono ?_); rintro e w7 ⟨v7, rfl, hr7, hb7⟩; obtain ⟨A7, c7, rfl⟩ := Kd.R_slice hr7; have HQ7 := Aside0.mk (Kd.C_below hr6 hb7))
                          | (go_at_call 14; (with_reducible refine (abacistref04_Same.calls k A6 c6 q A7 c7 ty true _ HQ7.out hl6 (Kd.R_reads' hr7).2.2 (Kd.R_reads' hr7).2.1 H11.out).mono ?_); rintro e w8 ⟨rfl, hd8⟩))
                        go_ret
                        exact ⟨rfl, below_step HB3.out (below_step HB.out (below_step hb5 (below_step hb6 (below_step hb7 hd8.below))))⟩
                      | succ m =>
                        have hil : i < l0.length := by omega
                        have hA := HA.out
                        simp only [abacistlaw33_TreeThrough.d3] at hA
                        by_cases hiy : i < l1.length
                        · rw [if_pos hiy] at hA
                          obtain ⟨x, hx, hA⟩ := Option.bind_eq_some_iff.1 hA
                          obtain ⟨y, hy, hA⟩ := Option.bind_eq_some_iff.1 hA
                          by_cases hxy : x = y
                          · rw [if_pos hxy] at hA
                            subst hxy
                            obtain ⟨ad1, e1, hyi⟩ := Kd.at_int HR1.out (i : Int) (by omega) (by omega)
                            subst e1
                            obtain ⟨ad2, e2, hxi⟩ := Kd.at_int HR0.out (i : Int) (by omega) (by omega)
                            injection e2 with e2
                            subst e2
                            rw [Int.toNat_natCast, show rd l1 (i : Int) = l1.getD i 0 by unfold rd; rw [Int.toNat_natCast]] at hyi
                            rw [Int.toNat_natCast, show rd l0 (i : Int) = l0.getD i 0 by unfold rd; rw [Int.toNat_natCast]] at hxi
                            generalize l1.getD i 0 = yi at hyi hy
                            generalize l0.getD i 0 = xi at hxi hx
                            have HX := Aside0.mk hx
                            have HY := Aside0.mk hy
                            have HA2 := Aside0.mk hA
                            have hxi := pw_cell_below HB.out (pw_cell_below HB3.out hxi)
                            have hyi := pw_cell_below HB.out (pw_cell_below HB3.out hyi)
                            have HP6 := Aside0.mk (Kd.C_below HP.out HB.out)
                            have c1' : decide ((i : Int) < (l0.length : Int)) = true := decide_eq_true (by omega)
                            have c2' : (i < l0.length) = True := eq_true hil
                            have c3' : (0 ≤ (i : Int)) = True := eq_true (by omega)
                            have c4' : ((i : Int) < (l0.length : Int)) = True := eq_true (by omega)
                            have d1' : (i < l1.length) = True := eq_true hiy
                            have d2' : ((i : Int) < (l1.length : Int)) = True := eq_true (by omega)
                            have hl16 := HL0.out.1
                            have hib : i < 4294967296 := by omega
                            have HI7 := Aside0.mk (show (i + 1) + m = l0.length by omega)
                            clear HA hA hx hy hi hiy hl16 HI
                            go_wp2
                            refine start_ (n := 12) (S := fun w' => w'.cell? (ad0.add i) = some (.int .u64 xi) ∧ w'.cell? (ad1.add i) = some (.int .u64 yi)) (ds := []) #[false, false, false, false, false, false, false, false, false, false, false, false] (by kernel_rfl) rfl rfl ⟨hxi, hyi⟩ (fun hHeld => ?_)
                            refine pure_ (i := 0) (N := some 111) (v := ?_) (a' := ?_) #[true, false, false, false, false, false, false, false, false, false, false, false] rfl rfl (by kernel_rfl) (fun _ _ _ h => h) (Or.inl ⟨by rfl, ?_⟩) ?_ ?_
                            rotate_left
                            · intro w'
                              go_simp
                              with_reducible rfl
                            rotate_left
                            · simp only [Act.put, List.setIfInBounds_toArray, List.set_cons_zero, List.set_cons_succ, i64_w, i32_w]
                              rfl
                            refine pure_ (i := 1) (N := some 112) (v := ?_) (a' := ?_) #[true, true, false, false, false, false, false, false, false, false, false, false] rfl rfl (by kernel_rfl) (fun _ _ _ h => h) (Or.inl ⟨by rfl, ?_⟩) ?_ ?_
                            rotate_left
                            · intro w'
                              go_simp
                              with_reducible rfl
                            rotate_left
                            · simp only [Act.put, List.setIfInBounds_toArray, List.set_cons_zero, List.set_cons_succ, i64_w, i32_w]
                              rfl
                            refine pure_ (i := 2) (N := some 113) (v := ?_) (a' := ?_) #[true, true, true, false, false, false, false, false, false, false, false, false] rfl rfl (by kernel_rfl) (fun _ _ _ h => h) (Or.inl ⟨by rfl, ?_⟩) ?_ ?_
                            rotate_left
                            · intro w'
                              go_simp
                              with_reducible rfl
                            rotate_left
                            · simp only [Act.put, List.setIfInBounds_toArray, List.set_cons_zero, List.set_cons_succ, i64_w, i32_w]
                              rfl
                            refine pure_ (i := 3) (N := some 114) (v := ?_) (a' := ?_) #[true, true, true, true, false, false, false, false, false, false, false, false] rfl rfl (by kernel_rfl) (fun _ _ _ h => h) (Or.inl ⟨by rfl, ?_⟩) ?_ ?_
                            rotate_left
                            · intro w'
                              go_simp
                              with_reducible rfl
                            rotate_left
                            · simp only [Act.put, List.setIfInBounds_toArray, List.set_cons_zero, List.set_cons_succ, i64_w, i32_w]
                              rfl
                            refine pure_ (i := 6) (N := some 117) (v := ?_) (a' := ?_) #[true, true, true, true, false, false, true, false, false, false, false, false] rfl rfl (by kernel_rfl) (fun _ _ _ h => h) (Or.inl ⟨by rfl, ?_⟩) ?_ ?_
                            rotate_left
                            · intro w'
                              go_simp
                              with_reducible rfl
                            rotate_left
                            · simp only [Act.put, List.setIfInBounds_toArray, List.set_cons_zero, List.set_cons_succ, i64_w, i32_w]
                              rfl
                            refine pure_ (i := 7) (N := some 118) (v := ?_) (a' := ?_) #[true, true, true, true, false, false, true, true, false, false, false, false] rfl rfl (by kernel_rfl) (fun _ _ _ h => h) (Or.inl ⟨by rfl, ?_⟩) ?_ ?_
                            rotate_left
                            · intro w'
                              go_simp
                              with_reducible rfl
                            rotate_left
                            · simp only [Act.put, List.setIfInBounds_toArray, List.set_cons_zero, List.set_cons_succ, i64_w, i32_w]
                              rfl
                            refine pure_ (i := 8) (N := some 119) (v := ?_) (a' := ?_) #[true, true, true, true, false, false, true, true, true, false, false, false] rfl rfl (by kernel_rfl) (fun _ _ _ h => h) (Or.inl ⟨by rfl, ?_⟩) ?_ ?_
                            rotate_left
                            · intro w'
                              go_simp
                              with_reducible rfl
                            rotate_left
                            · simp only [Act.put, List.setIfInBounds_toArray, List.set_cons_zero, List.set_cons_succ, i64_w, i32_w]
                              rfl
                            refine take_ (i := 4) (N := some 115) (v := ?_) (a' := ?_) #[true, true, true, true, true, false, true, true, true, false, false, false] rfl rfl (by kernel_rfl) (fun _ _ _ h => h) (Or.inl ⟨by rfl, ?_⟩) hHeld ?_ ?_
                            rotate_left
                            · rintro w' ⟨s0, s1⟩
                              go_simp
                              with_reducible rfl
                            rotate_left
                            · simp only [Act.put, List.setIfInBounds_toArray, List.set_cons_zero, List.set_cons_succ, i64_w, i32_w]
                              rfl
                            refine take_ (i := 9) (N := some 120) (v := ?_) (a' := ?_) #[true, true, true, true, true, false, true, true, true, true, false, false] rfl rfl (by kernel_rfl) (fun _ _ _ h => h) (Or.inl ⟨by rfl, ?_⟩) hHeld ?_ ?_
                            rotate_left
                            · rintro w' ⟨s0, s1⟩
                              go_simp
                              with_reducible rfl
                            rotate_left
                            · simp only [Act.put, List.setIfInBounds_toArray, List.set_cons_zero, List.set_cons_succ, i64_w, i32_w]
                              rfl
                            refine one_ (i := 5) (N := some 116) #[true, true, true, true, true, true, true, true, true, true, false, false] rfl rfl (by kernel_rfl) (by decide) (fun K hK => ?_)
                            refine goes_ Try.func17 (by kernel_rfl) rfl #[.slice Ap p.length cp, .int .u64 xi] (by rfl) rfl rfl (by (try simp only [List.map_toArray, List.map_cons, List.map_nil]); first | done | rfl) ?_
                            with_reducible refine (abacistref07_At.calls k Ap cp p xi x _ (Kd.C_drew HP6.out) HPL.out HX.out).mono ?_
                            rintro e w6 ⟨rfl, hd6⟩
                            refine ⟨_, rfl, ?_⟩
                            refine hK.out _ _ ⟨(pw_cell_below hd6.below hxi), (pw_cell_below hd6.below hyi)⟩ (fun hHeld => ?_)
                            clear hK K
                            refine norm_ (a' := ?_) ?_ ?_
                            rotate_left
                            · show Act.put _ (some 116) _ = _
                              simp only [Act.put, List.setIfInBounds_toArray, List.set_cons_zero, List.set_cons_succ, i64_w, i32_w]
                              rfl
                            refine one_ (i := 10) (N := some 121) #[true, true, true, true, true, true, true, true, true, true, true, false] rfl rfl (by kernel_rfl) (by decide) (fun K hK => ?_)
                            refine goes_ Try.func22 (by kernel_rfl) rfl #[.int .u64 yi] (by rfl) rfl rfl (by (try simp only [List.map_toArray, List.map_cons, List.map_nil]); first | done | rfl) ?_
                            with_reducible refine (abacistref02_Of.calls yi x _ HY.out).mono ?_
                            rintro e w7 ⟨rfl, hd7⟩
                            refine ⟨_, rfl, ?_⟩
                            refine hK.out _ _ ⟨(pw_cell_below hd7.below (pw_cell_below hd6.below hxi)), (pw_cell_below hd7.below (pw_cell_below hd6.below hyi))⟩ (fun hHeld => ?_)
                            clear hK K
                            refine norm_ (a' := ?_) ?_ ?_
                            rotate_left
                            · show Act.put _ (some 121) _ = _
                              simp only [Act.put, List.setIfInBounds_toArray, List.set_cons_zero, List.set_cons_succ, i64_w, i32_w]
                              rfl
                            refine pure_ (i := 11) (N := some 122) (v := ?_) (a' := ?_) #[true, true, true, true, true, true, true, true, true, true, true, true] rfl rfl (by kernel_rfl) (fun _ _ _ h => h) (Or.inl ⟨by rfl, ?_⟩) ?_ ?_
                            rotate_left
                            · intro w'
                              go_simp
                              with_reducible rfl
                            rotate_left
                            · simp only [Act.put, List.setIfInBounds_toArray, List.set_cons_zero, List.set_cons_succ, i64_w, i32_w]
                              rfl
                            refine done_ (by kernel_rfl) ?_
                            have hb7 := Aside0.mk (below_step HB.out (below_step (below_step (below_drew1 (Below.refl wr.heap.size wr)) hd6.below) hd7.below))
                            clear hHeld hd6 hd7 HB hxi hyi HP6 c1' c2' c3' c4' d1' d2'
                            go_wp2
                            go_roundg m
                            case rel => exact ⟨i + 1, by go_num, HI7, HA2, hb7⟩
                            case measure => exact Nat.lt_succ_self _
                          · rw [if_neg hxy] at hA; cases hA
                        · rw [if_neg hiy] at hA; cases hA
                  · rw [if_neg hb3] at z8; cases z8
                · rw [if_neg hvq] at z6; cases z6
              · rw [if_neg hb1] at z3; cases z3
            · rw [if_neg hpp] at z1; cases z1
          | succ m =>
            obtain ⟨b, hA1, hA2⟩ := Option.bind_eq_some_iff.1 (show (abacistlaw33_TreeThrough.d2 l0 i i 0).bind (fun b => if b = true then some true else abacistlaw33_TreeThrough.d1 l0 m (i + 1)) = some d from HA.out)
            have HA1 := Aside0.mk hA1
            have HA2 := Aside0.mk hA2
            have hil : i < l0.length := by omega
            have c1' : decide ((i : Int) < (l0.length : Int)) = true := decide_eq_true (by omega)
            have c2' : (i < l0.length) = True := eq_true hil
            have HI7 := Aside0.mk (show (i + 1) + m = l0.length by omega)
            have HIL := Aside0.mk hil
            clear hA1 hA2 HA HI hi
            go_wp2
            clear c1' c2'
            go_loopg [10] i (fun kq v10 w' => ∃ (k2 : Nat), v10 = .int .i64 (k2 : Int) ∧ Aside0 (k2 + kq = i) ∧ Aside0 (abacistlaw33_TreeThrough.d2 l0 i kq k2 = some b) ∧ Aside0 (Below w3.heap.size w3 w'))
            case atStart => exact ⟨0, rfl, ⟨Nat.zero_add _⟩, HA1, HB⟩
            case round =>
              clear HA1 HB
              obtain ⟨k2, rfl, HK, HA, HB⟩ := hrel
              have hk := HK.out
              cases gk with
              | zero =>
                have hik : k2 = i := by omega
                subst hik
                have hbf := Option.some.inj HA.out
                subst hbf
                have HA3 := Aside0.mk (show abacistlaw33_TreeThrough.d1 l0 m (k2 + 1) = some d from by have := HA2.out; simp only [Bool.false_eq_true, if_false] at this; exact this)
                have q1 : decide ((k2 : Int) < (k2 : Int)) = false := decide_eq_false (by omega)
                have q2 : (k2 < k2) = False := eq_false (by omega)
                have q3 : decide (k2 < k2) = false := decide_eq_false (by omega)
                have hib : k2 < 4294967296 := by omega
                clear hk HA HA2
                go_wp2
                clear q1 q2 q3
                go_roundg m
                case rel => exact ⟨k2 + 1, by go_num, HI7, HA3, HB⟩
                case measure => exact Nat.lt_succ_self _
              | succ n =>
                have hkl : k2 < i := by omega
                have hA := HA.out
                simp only [abacistlaw33_TreeThrough.d2] at hA
                obtain ⟨x, hx, hA⟩ := Option.bind_eq_some_iff.1 hA
                obtain ⟨y, hy, hA⟩ := Option.bind_eq_some_iff.1 hA
                obtain ⟨ad2, e2, hxi⟩ := Kd.at_int HR0.out (i : Int) (by omega) (by omega)
                injection e2 with e2
                subst e2
                obtain ⟨ad3, e3, hyk⟩ := Kd.at_int HR0.out (k2 : Int) (by omega) (by omega)
                injection e3 with e3
                subst e3
                rw [Int.toNat_natCast, show rd l0 (i : Int) = l0.getD i 0 by unfold rd; rw [Int.toNat_natCast]] at hxi
                rw [Int.toNat_natCast, show rd l0 (k2 : Int) = l0.getD k2 0 by unfold rd; rw [Int.toNat_natCast]] at hyk
                generalize l0.getD i 0 = xi at hxi hx
                generalize l0.getD k2 0 = yk at hyk hy
                have HX := Aside0.mk hx
                have HY := Aside0.mk hy
                have hxi := pw_cell_below HB.out (pw_cell_below HB3.out hxi)
                have hyk := pw_cell_below HB.out (pw_cell_below HB3.out hyk)
                have c1' : decide ((k2 : Int) < (i : Int)) = true := decide_eq_true (by omega)
                have c2' : (k2 < i) = True := eq_true hkl
                have c3' : (0 ≤ (i : Int)) = True := eq_true (by omega)
                have c4' : ((i : Int) < (l0.length : Int)) = True := eq_true (by omega)
                have c5' : (0 ≤ (k2 : Int)) = True := eq_true (by omega)
                have c6' : ((k2 : Int) < (l0.length : Int)) = True := eq_true (by omega)
                have c7' : (i < l0.length) = True := eq_true hil
                have c8' : (k2 < l0.length) = True := eq_true (by omega)
                have hib : k2 < 4294967296 := by omega
                have HK7 := Aside0.mk (show (k2 + 1) + n = i by omega)
                clear HA hx hy hk HK
                by_cases hxy : x = y
                · rw [if_pos hxy] at hA
                  subst hxy
                  have hbt := Option.some.inj hA
                  subst hbt
                  have hdt : true = d := by have := HA2.out; simp only [if_true] at this; exact Option.some.inj this
                  subst hdt
                  have z1 := H.out
                  simp only [if_true] at z1
                  by_cases hpp : pe = 13 ∧ p.length = 0
                  · clear z1 hA
                    obtain ⟨hpe, hp0⟩ := hpp
                    have hp1 := List.eq_nil_of_length_eq_zero hp0
                    subst hpe hp1
                    clear hp0
                    go_wp2
                    refine start_ (n := 11) (S := fun w' => w'.cell? (ad0.add i) = some (.int .u64 xi) ∧ w'.cell? (ad0.add k2) = some (.int .u64 yk)) (ds := []) #[false, false, false, false, false, false, false, false, false, false, false] (by kernel_rfl) rfl rfl ⟨hxi, hyk⟩ (fun hHeld => ?_)
                    refine pure_ (i := 0) (N := some 71) (v := ?_) (a' := ?_) #[true, false, false, false, false, false, false, false, false, false, false] rfl rfl (by kernel_rfl) (fun _ _ _ h => h) (Or.inl ⟨by rfl, ?_⟩) ?_ ?_
                    rotate_left
                    · intro w'
                      go_simp
                      with_reducible rfl
                    rotate_left
                    · simp only [Act.put, List.setIfInBounds_toArray, List.set_cons_zero, List.set_cons_succ, i64_w, i32_w]
                      rfl
                    refine pure_ (i := 1) (N := some 72) (v := ?_) (a' := ?_) #[true, true, false, false, false, false, false, false, false, false, false] rfl rfl (by kernel_rfl) (fun _ _ _ h => h) (Or.inl ⟨by rfl, ?_⟩) ?_ ?_
                    rotate_left
                    · intro w'
                      go_simp
                      with_reducible rfl
                    rotate_left
                    · simp only [Act.put, List.setIfInBounds_toArray, List.set_cons_zero, List.set_cons_succ, i64_w, i32_w]
                      rfl
                    refine pure_ (i := 2) (N := some 73) (v := ?_) (a' := ?_) #[true, true, true, false, false, false, false, false, false, false, false] rfl rfl (by kernel_rfl) (fun _ _ _ h => h) (Or.inl ⟨by rfl, ?_⟩) ?_ ?_
                    rotate_left
                    · intro w'
                      go_simp
                      with_reducible rfl
                    rotate_left
                    · simp only [Act.put, List.setIfInBounds_toArray, List.set_cons_zero, List.set_cons_succ, i64_w, i32_w]
                      rfl
                    refine pure_ (i := 5) (N := some 76) (v := ?_) (a' := ?_) #[true, true, true, false, false, true, false, false, false, false, false] rfl rfl (by kernel_rfl) (fun _ _ _ h => h) (Or.inl ⟨by rfl, ?_⟩) ?_ ?_
                    rotate_left
                    · intro w'
                      go_simp
                      with_reducible rfl
                    rotate_left
                    · simp only [Act.put, List.setIfInBounds_toArray, List.set_cons_zero, List.set_cons_succ, i64_w, i32_w]
                      rfl
                    refine pure_ (i := 6) (N := some 77) (v := ?_) (a' := ?_) #[true, true, true, false, false, true, true, false, false, false, false] rfl rfl (by kernel_rfl) (fun _ _ _ h => h) (Or.inl ⟨by rfl, ?_⟩) ?_ ?_
                    rotate_left
                    · intro w'
                      go_simp
                      with_reducible rfl
                    rotate_left
                    · simp only [Act.put, List.setIfInBounds_toArray, List.set_cons_zero, List.set_cons_succ, i64_w, i32_w]
                      rfl
                    refine pure_ (i := 7) (N := some 78) (v := ?_) (a' := ?_) #[true, true, true, false, false, true, true, true, false, false, false] rfl rfl (by kernel_rfl) (fun _ _ _ h => h) (Or.inl ⟨by rfl, ?_⟩) ?_ ?_
                    rotate_left
                    · intro w'
                      go_simp
                      with_reducible rfl
                    rotate_left
                    · simp only [Act.put, List.setIfInBounds_toArray, List.set_cons_zero, List.set_cons_succ, i64_w, i32_w]
                      rfl
                    refine take_ (i := 3) (N := some 74) (v := ?_) (a' := ?_) #[true, true, true, true, false, true, true, true, false, false, false] rfl rfl (by kernel_rfl) (fun _ _ _ h => h) (Or.inl ⟨by rfl, ?_⟩) hHeld ?_ ?_
                    rotate_left
                    · rintro w' ⟨s0, s1⟩
                      go_simp
                      with_reducible rfl
                    rotate_left
                    · simp only [Act.put, List.setIfInBounds_toArray, List.set_cons_zero, List.set_cons_succ, i64_w, i32_w]
                      rfl
                    refine take_ (i := 8) (N := some 79) (v := ?_) (a' := ?_) #[true, true, true, true, false, true, true, true, true, false, false] rfl rfl (by kernel_rfl) (fun _ _ _ h => h) (Or.inl ⟨by rfl, ?_⟩) hHeld ?_ ?_
                    rotate_left
                    · rintro w' ⟨s0, s1⟩
                      go_simp
                      with_reducible rfl
                    rotate_left
                    · simp only [Act.put, List.setIfInBounds_toArray, List.set_cons_zero, List.set_cons_succ, i64_w, i32_w]
                      rfl
                    refine one_ (i := 4) (N := some 75) #[true, true, true, true, true, true, true, true, true, false, false] rfl rfl (by kernel_rfl) (by decide) (fun K hK => ?_)
                    refine goes_ Try.func22 (by kernel_rfl) rfl #[.int .u64 xi] (by rfl) rfl rfl (by (try simp only [List.map_toArray, List.map_cons, List.map_nil]); first | done | rfl) ?_
                    with_reducible refine (abacistref02_Of.calls xi x _ HX.out).mono ?_
                    rintro e w6 ⟨rfl, hd6⟩
                    refine ⟨_, rfl, ?_⟩
                    refine hK.out _ _ ⟨(pw_cell_below hd6.below hxi), (pw_cell_below hd6.below hyk)⟩ (fun hHeld => ?_)
                    clear hK K
                    refine norm_ (a' := ?_) ?_ ?_
                    rotate_left
                    · show Act.put _ (some 75) _ = _
                      simp only [Act.put, List.setIfInBounds_toArray, List.set_cons_zero, List.set_cons_succ, i64_w, i32_w]
                      rfl
                    refine one_ (i := 9) (N := some 80) #[true, true, true, true, true, true, true, true, true, true, false] rfl rfl (by kernel_rfl) (by decide) (fun K hK => ?_)
                    refine goes_ Try.func22 (by kernel_rfl) rfl #[.int .u64 yk] (by rfl) rfl rfl (by (try simp only [List.map_toArray, List.map_cons, List.map_nil]); first | done | rfl) ?_
                    with_reducible refine (abacistref02_Of.calls yk x _ HY.out).mono ?_
                    rintro e w7 ⟨rfl, hd7⟩
                    refine ⟨_, rfl, ?_⟩
                    refine hK.out _ _ ⟨(pw_cell_below hd7.below (pw_cell_below hd6.below hxi)), (pw_cell_below hd7.below (pw_cell_below hd6.below hyk))⟩ (fun hHeld => ?_)
                    clear hK K
                    refine norm_ (a' := ?_) ?_ ?_
                    rotate_left
                    · show Act.put _ (some 80) _ = _
                      simp only [Act.put, List.setIfInBounds_toArray, List.set_cons_zero, List.set_cons_succ, i64_w, i32_w]
                      rfl
                    refine pure_ (i := 10) (N := some 81) (v := ?_) (a' := ?_) #[true, true, true, true, true, true, true, true, true, true, true] rfl rfl (by kernel_rfl) (fun _ _ _ h => h) (Or.inl ⟨by rfl, ?_⟩) ?_ ?_
                    rotate_left
                    · intro w'
                      go_simp
                      with_reducible rfl
                    rotate_left
                    · simp only [Act.put, List.setIfInBounds_toArray, List.set_cons_zero, List.set_cons_succ, i64_w, i32_w]
                      rfl
                    refine done_ (by kernel_rfl) ?_
                    go_wp2
                    go_ret
                    exact ⟨rfl, below_step HB3.out (below_step HB.out (below_step (below_step (below_drew1 (Below.refl wr.heap.size wr)) hd6.below) hd7.below))⟩
                  · rw [if_neg hpp] at z1; cases z1
                · rw [if_neg hxy] at hA
                  have HA3 := Aside0.mk hA
                  have g1 : (x == y) = false := beq_eq_false_iff_ne.2 hxy
                  have g2 : (x = y) = False := eq_false hxy
                  clear hA hxy
                  go_wp2
                  refine start_ (n := 11) (S := fun w' => w'.cell? (ad0.add i) = some (.int .u64 xi) ∧ w'.cell? (ad0.add k2) = some (.int .u64 yk)) (ds := []) #[false, false, false, false, false, false, false, false, false, false, false] (by kernel_rfl) rfl rfl ⟨hxi, hyk⟩ (fun hHeld => ?_)
                  refine pure_ (i := 0) (N := some 71) (v := ?_) (a' := ?_) #[true, false, false, false, false, false, false, false, false, false, false] rfl rfl (by kernel_rfl) (fun _ _ _ h => h) (Or.inl ⟨by rfl, ?_⟩) ?_ ?_
                  rotate_left
                  · intro w'
                    go_simp
                    with_reducible rfl
                  rotate_left
                  · simp only [Act.put, List.setIfInBounds_toArray, List.set_cons_zero, List.set_cons_succ, i64_w, i32_w]
                    rfl
                  refine pure_ (i := 1) (N := some 72) (v := ?_) (a' := ?_) #[true, true, false, false, false, false, false, false, false, false, false] rfl rfl (by kernel_rfl) (fun _ _ _ h => h) (Or.inl ⟨by rfl, ?_⟩) ?_ ?_
                  rotate_left
                  · intro w'
                    go_simp
                    with_reducible rfl
                  rotate_left
                  · simp only [Act.put, List.setIfInBounds_toArray, List.set_cons_zero, List.set_cons_succ, i64_w, i32_w]
                    rfl
                  refine pure_ (i := 2) (N := some 73) (v := ?_) (a' := ?_) #[true, true, true, false, false, false, false, false, false, false, false] rfl rfl (by kernel_rfl) (fun _ _ _ h => h) (Or.inl ⟨by rfl, ?_⟩) ?_ ?_
                  rotate_left
                  · intro w'
                    go_simp
                    with_reducible rfl
                  rotate_left
                  · simp only [Act.put, List.setIfInBounds_toArray, List.set_cons_zero, List.set_cons_succ, i64_w, i32_w]
                    rfl
                  refine pure_ (i := 5) (N := some 76) (v := ?_) (a' := ?_) #[true, true, true, false, false, true, false, false, false, false, false] rfl rfl (by kernel_rfl) (fun _ _ _ h => h) (Or.inl ⟨by rfl, ?_⟩) ?_ ?_
                  rotate_left
                  · intro w'
                    go_simp
                    with_reducible rfl
                  rotate_left
                  · simp only [Act.put, List.setIfInBounds_toArray, List.set_cons_zero, List.set_cons_succ, i64_w, i32_w]
                    rfl
                  refine pure_ (i := 6) (N := some 77) (v := ?_) (a' := ?_) #[true, true, true, false, false, true, true, false, false, false, false] rfl rfl (by kernel_rfl) (fun _ _ _ h => h) (Or.inl ⟨by rfl, ?_⟩) ?_ ?_
                  rotate_left
                  · intro w'
                    go_simp
                    with_reducible rfl
                  rotate_left
                  · simp only [Act.put, List.setIfInBounds_toArray, List.set_cons_zero, List.set_cons_succ, i64_w, i32_w]
                    rfl
                  refine pure_ (i := 7) (N := some 78) (v := ?_) (a' := ?_) #[true, true, true, false, false, true, true, true, false, false, false] rfl rfl (by kernel_rfl) (fun _ _ _ h => h) (Or.inl ⟨by rfl, ?_⟩) ?_ ?_
                  rotate_left
                  · intro w'
                    go_simp
                    with_reducible rfl
                  rotate_left
                  · simp only [Act.put, List.setIfInBounds_toArray, List.set_cons_zero, List.set_cons_succ, i64_w, i32_w]
                    rfl
                  refine take_ (i := 3) (N := some 74) (v := ?_) (a' := ?_) #[true, true, true, true, false, true, true, true, false, false, false] rfl rfl (by kernel_rfl) (fun _ _ _ h => h) (Or.inl ⟨by rfl, ?_⟩) hHeld ?_ ?_
                  rotate_left
                  · rintro w' ⟨s0, s1⟩
                    go_simp
                    with_reducible rfl
                  rotate_left
                  · simp only [Act.put, List.setIfInBounds_toArray, List.set_cons_zero, List.set_cons_succ, i64_w, i32_w]
                    rfl
                  refine take_ (i := 8) (N := some 79) (v := ?_) (a' := ?_) #[true, true, true, true, false, true, true, true, true, false, false] rfl rfl (by kernel_rfl) (fun _ _ _ h => h) (Or.inl ⟨by rfl, ?_⟩) hHeld ?_ ?_
                  rotate_left
                  · rintro w' ⟨s0, s1⟩
                    go_simp
                    with_reducible rfl
                  rotate_left
                  · simp only [Act.put, List.setIfInBounds_toArray, List.set_cons_zero, List.set_cons_succ, i64_w, i32_w]
                    rfl
                  refine one_ (i := 4) (N := some 75) #[true, true, true, true, true, true, true, true, true, false, false] rfl rfl (by kernel_rfl) (by decide) (fun K hK => ?_)
                  refine goes_ Try.func22 (by kernel_rfl) rfl #[.int .u64 xi] (by rfl) rfl rfl (by (try simp only [List.map_toArray, List.map_cons, List.map_nil]); first | done | rfl) ?_
                  with_reducible refine (abacistref02_Of.calls xi x _ HX.out).mono ?_
                  rintro e w6 ⟨rfl, hd6⟩
                  refine ⟨_, rfl, ?_⟩
                  refine hK.out _ _ ⟨(pw_cell_below hd6.below hxi), (pw_cell_below hd6.below hyk)⟩ (fun hHeld => ?_)
                  clear hK K
                  refine norm_ (a' := ?_) ?_ ?_
                  rotate_left
                  · show Act.put _ (some 75) _ = _
                    simp only [Act.put, List.setIfInBounds_toArray, List.set_cons_zero, List.set_cons_succ, i64_w, i32_w]
                    rfl
                  refine one_ (i := 9) (N := some 80) #[true, true, true, true, true, true, true, true, true, true, false] rfl rfl (by kernel_rfl) (by decide) (fun K hK => ?_)
                  refine goes_ Try.func22 (by kernel_rfl) rfl #[.int .u64 yk] (by rfl) rfl rfl (by (try simp only [List.map_toArray, List.map_cons, List.map_nil]); first | done | rfl) ?_
                  with_reducible refine (abacistref02_Of.calls yk y _ HY.out).mono ?_
                  rintro e w7 ⟨rfl, hd7⟩
                  refine ⟨_, rfl, ?_⟩
                  refine hK.out _ _ ⟨(pw_cell_below hd7.below (pw_cell_below hd6.below hxi)), (pw_cell_below hd7.below (pw_cell_below hd6.below hyk))⟩ (fun hHeld => ?_)
                  clear hK K
                  refine norm_ (a' := ?_) ?_ ?_
                  rotate_left
                  · show Act.put _ (some 80) _ = _
                    simp only [Act.put, List.setIfInBounds_toArray, List.set_cons_zero, List.set_cons_succ, i64_w, i32_w]
                    rfl
                  refine pure_ (i := 10) (N := some 81) (v := ?_) (a' := ?_) #[true, true, true, true, true, true, true, true, true, true, true] rfl rfl (by kernel_rfl) (fun _ _ _ h => h) (Or.inl ⟨by rfl, ?_⟩) ?_ ?_
                  rotate_left
                  · intro w'
                    go_simp
                    with_reducible rfl
                  rotate_left
                  · simp only [Act.put, List.setIfInBounds_toArray, List.set_cons_zero, List.set_cons_succ, i64_w, i32_w]
                    rfl
                  refine done_ (by kernel_rfl) ?_
                  have hb7 := Aside0.mk (below_step HB.out (below_step (below_step (below_drew1 (Below.refl wr.heap.size wr)) hd6.below) hd7.below))
                  clear hHeld hd6 hd7 HB hxi hyk c1' c2' c3' c4' c5' c6' c7' c8'
                  go_wp2
                  go_roundg n
                  case rel => exact ⟨k2 + 1, by go_num, HK7, HA3, hb7⟩
                  case measure => exact Nat.lt_succ_self _
      · rw [if_neg hll] at h
        by_cases hpp : pe = 19 ∧ p.length = 0
        · obtain ⟨rfl, hp0⟩ := hpp
          obtain rfl := List.eq_nil_of_length_eq_zero hp0
          have p7 : ((l1.length : Int) != (l0.length : Int)) = true := by simp; omega
          have p8 : ((l1.length : Int) == (l0.length : Int)) = false := by simp; omega
          have p9 : (l1.length == l0.length) = false := by simp; omega
          clear h hll hp0
          go_enter Try.func6, Try.ntmps6
          go_wp2_with (first
            | (go_at_call 7; (with_reducible refine (abacistlaw33_awake.calls k true _ H1.out).mono ?_); rintro e w1 ⟨rfl, hb1⟩)
            | (go_at_call 8; (with_reducible refine (tree_New.calls k A0 c0 l0 L _ (Kd.C_below HR0.out hb1) HC0.out H2.out).mono ?_); rintro e w2 ⟨g, rfl, hT, hg, hb2⟩; have HT := Aside0.mk hT; have HB2 := Aside0.mk (below_step hb1 hb2); clear hT hg hb1 hb2)
            | (go_at_call 21; (with_reducible refine (tree_Tree_Through.calls k g (hk_ofs l0) L A1 c1 l1 [] 19 _ HT.out (Kd.C_below HR1.out HB2.out) HC1.out H3.out).mono ?_); rintro e w3 ⟨Ap, cp, rfl, hpl, hpr, hb3⟩; have HB3 := Aside0.mk (below_step HB2.out hb3); clear hpl hpr hb3))
          go_ret
          exact ⟨rfl, HB3.out⟩
        · rw [if_neg hpp] at h; cases h
  · rw [if_neg hb] at h; cases h
def abacistlaw33_TreeThrough.Pure : Prop := ∀ (l0 : List Int) (l1 : List Int), l0.length ≤ maxLen → l0.length * 8 ≤ 140737488351232 → (∀ x ∈ l0, (Lit.int .u64 x).wf = true) → l1.length ≤ maxLen → l1.length * 8 ≤ 140737488351232 → (∀ x ∈ l1, (Lit.int .u64 x).wf = true) → ∃ k, abacistlaw33_TreeThrough.f k l0 l1 = some true
theorem abacistlaw33_TreeThrough.walk (P : abacistlaw33_TreeThrough.Pure) (a0 : Option Addr) (len0 cap0 : Nat) (z0 : List Int) (a1 : Option Addr) (len1 cap1 : Nat) (z1 : List Int) (w : World) (w0 : (a0 = none ∧ len0 = 0 ∧ cap0 = 0 ∧ z0 = []) ∨ ∃ x, a0 = some x ∧ len0 ≤ cap0 ∧ cap0 ≤ maxLen ∧ z0.length = cap0 ∧ (∀ i, i < z0.length → w.cell? (x.add i) = some (.int .u64 (z0.getD i 0))) ∧ ∀ n ∈ z0, (Lit.int .u64 n).wf = true) (y0 : len0 * 8 ≤ 140737488351232) (w1 : (a1 = none ∧ len1 = 0 ∧ cap1 = 0 ∧ z1 = []) ∨ ∃ x, a1 = some x ∧ len1 ≤ cap1 ∧ cap1 ≤ maxLen ∧ z1.length = cap1 ∧ (∀ i, i < z1.length → w.cell? (x.add i) = some (.int .u64 (z1.getD i 0))) ∧ ∀ n ∈ z1, (Lit.int .u64 n).wf = true) (y1 : len1 * 8 ≤ 140737488351232) :
    Calls Try.prog 6 #[.slice a0 len0 cap0, .slice a1 len1 cap1] w fun e w' => e = .returned (.bool true) ∧ Below w.heap.size w w' := by
  obtain ⟨l0, rfl, hr0, hm0, hw0, hc0⟩ := ReadsInt.ofRowC w0
  obtain ⟨l1, rfl, hr1, hm1, hw1, hc1⟩ := ReadsInt.ofRowC w1
  obtain ⟨k, h⟩ := P l0 l1 hm0 y0 hw0 hm1 y1 hw1
  exact abacistlaw33_TreeThrough.calls k _ _ l0 _ _ l1 w (Kd.C_of_reads (d := (0 : Int)) (h1 := fun _ => rfl) hr0) hc0 (Kd.C_of_reads (d := (0 : Int)) (h1 := fun _ => rfl) hr1) hc1 h

end Go.Proofs.Ytkgakohgbbapaaa.PTreeThrough
