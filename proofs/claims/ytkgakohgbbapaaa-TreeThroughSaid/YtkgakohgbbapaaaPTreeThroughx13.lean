-- Written for this claim by wip/gen/mk.sh, this session's own driver over the kit's print
import Derived.Test.YtkgakohgbbapaaaPTreeThroughx0
import Derived.Test.YtkgakohgbbapaaaPTreeThroughx1
import Derived.Test.YtkgakohgbbapaaaPTreeThroughx6
import Derived.Test.YtkgakohgbbapaaaPTreeThroughx7
import Derived.Test.YtkgakohgbbapaaaPTreeThroughx11
import Derived.Test.YtkgakohgbbapaaaPTreeThroughx12
namespace Go.Proofs.Ytkgakohgbbapaaa.PTreeThrough
open Go.RowKit Go.Proofs.YtkgakohgbbapaaaW.PrintWords Go.Proofs.YtkgakohgbbapaaaW.PrintLast Go.Proofs.YtkgakohgbbapaaaW.PrintMore
attribute [local go_sem] max2_int min2_int max_two min_two max_three min_three max_four min_four   -- for this text's walks alone
set_option linter.unusedVariables false
set_option linter.unusedSimpArgs false

/-! ### tree_Tree_Through: function 21 (by hand) -/
def tree_Tree_Through.l4 (k : Nat) (iv : List Int) : List Int → Nat → List (List Int) → Option (List (List Int))
  | [], _, ss => some ss
  | y :: ys, i, ss => if i < iv.length then (gold_Mul.f y (iv.getD i 0)).bind fun m => (poly_Trim.f k [m]).bind fun t => tree_Tree_Through.l4 k iv ys (i + 1) (ss ++ [t]) else none
def tree_Tree_Through.l5 (k : Nat) : List (List (List Int)) → List (List Int) → Option (List (List Int))
  | [], ss => some ss
  | nodes :: rest, ss => (tree_joined.f k ss nodes).bind fun s2 => tree_Tree_Through.l5 k rest s2
def tree_Tree_Through.f (k : Nat) (ps : List Int) (L : List (List (List Int))) (l : List Int) : Option (List Int × Int) :=
  if l.length = ps.length then
    (tree_Tree_Top.f ps L).bind fun top => (poly_Derive.f k top).bind fun d => (tree_Tree_Values.f k L d).bind fun s => (gold_Invs.f k s.1).bind fun v =>
      if v.2.2 = 0 then (if 0 < L.length ∧ L.length < 4294967296 ∧ l.length < 4294967296 then (tree_Tree_Through.l4 k v.1 l 0 []).bind fun ss => (tree_Tree_Through.l5 k (L.take (L.length - 1)) ss).bind fun rr => if 0 < rr.length then some (rr.getD 0 [], 0) else none else none)
      else some ([], v.2.2)
  else some ([], 19)
def tree_Tree_Through.Post (w : World) (r1 : List Int) (r2 : Int) (e : Ending) (w' : World) : Prop :=
  ∃ (A : Option Addr) (c : Nat), e = .returned (.tuple #[.slice A r1.length c, .int .i64 r2]) ∧ r1.length ≤ c ∧ Kd.C (Kd.int .u64) w' A r1.length r1 ∧ Below w.heap.size w w'
set_option maxHeartbeats 4000000 in
set_option maxRecDepth 100000 in
theorem tree_Tree_Through.calls (k g : Nat) (ps : List Int) (L : List (List (List Int))) (A : Option Addr) (c : Nat) (l : List Int) (r1 : List Int) (r2 : Int) (w : World) (hT : hk_T w g ps L) (hr : Kd.C (Kd.int .u64) w A l.length l) (hc : l.length ≤ c) (h : tree_Tree_Through.f k ps L l = some (r1, r2)) :
    Calls Try.prog 21 #[.pointer (some ⟨g, 0, none⟩), .slice A l.length c] w (tree_Tree_Through.Post w r1 r2) := by
  unfold tree_Tree_Through.f at h
  have HR := Aside0.mk hr
  have HC := Aside0.mk hc
  have HT := Aside0.mk hT
  clear hr hc
  obtain ⟨A0, cp, A1, c1, hG, hcp, hcL, hC0, hC1⟩ := hT
  have HT1 := Aside0.mk hC1
  have HCL := Aside0.mk hcL
  have HG := Aside0.mk hG
  have hgc0 := hk_blk_cell hG 0 _ rfl
  clear hG hcp hcL hC0 hC1
  by_cases hl : l.length = ps.length
  · rw [if_pos hl] at h
    obtain ⟨top, h1, h⟩ := Option.bind_eq_some_iff.1 h
    obtain ⟨d, h2, h⟩ := Option.bind_eq_some_iff.1 h
    obtain ⟨⟨s, es⟩, h3, h⟩ := Option.bind_eq_some_iff.1 h
    obtain ⟨⟨iv, ia, ie⟩, h4, h⟩ := Option.bind_eq_some_iff.1 h
    have H1 := Aside0.mk h1
    have H2 := Aside0.mk h2
    have H3 := Aside0.mk h3
    have H4 := Aside0.mk h4
    have H := Aside0.mk h
    clear h1 h2 h3 h4 h
    have p1 : ((l.length : Int) != (ps.length : Int)) = false := by simp [hl]
    have p2 : ((l.length : Int) == (ps.length : Int)) = true := by simp [hl]
    have p3 : (l.length == ps.length) = true := by simp [hl]
    have HLP := Aside0.mk hl
    clear hl
    by_cases he : ie = 0
    · subst he
      have H' := H.out
      simp only [if_true] at H'
      by_cases hb : 0 < L.length ∧ L.length < 4294967296 ∧ l.length < 4294967296
      · rw [if_pos hb] at H'
        obtain ⟨ss0, h5, H'⟩ := Option.bind_eq_some_iff.1 H'
        obtain ⟨rr, h6, H'⟩ := Option.bind_eq_some_iff.1 H'
        by_cases hrr : 0 < rr.length
        · rw [if_pos hrr] at H'
          simp only [Option.some.injEq, Prod.mk.injEq] at H'
          obtain ⟨hrz, rfl⟩ := H'
          have HRZ := Aside0.mk hrz
          clear hrz
          have H5 := Aside0.mk h5
          have H6 := Aside0.mk h6
          have HRR := Aside0.mk hrr
          have HBD := Aside0.mk hb
          clear h5 h6 hrr hb H
          go_enter Try.func21, Try.ntmps21
          go_wp2_with (first
            | (go_at_call 15; (with_reducible refine (tree_Tree_Top.calls g ps L top w _ (hk_T.state HT.out) (Below.refl _ _) H1.out).mono ?_); rintro e w1 ⟨v1, rfl, hr1, hi1, hb1, hk1⟩; obtain ⟨At, ct, rfl⟩ := Kd.R_slice hr1)
            | (go_at_call 33; (with_reducible refine (poly_Derive.calls k At ct top d _ (Kd.R_reads' hr1).2.2 (Kd.R_reads' hr1).2.1 H2.out).mono ?_); rintro e w2 ⟨v2, rfl, hr2, hb2⟩; obtain ⟨Ad, cd, rfl⟩ := Kd.R_slice hr2; have hbb2 := below_step hb1 hb2)
            | (go_at_call 20; (with_reducible refine (tree_Tree_Values.calls k g ps L Ad cd d s es _ (hk_T.below HT.out hbb2) (Kd.R_reads' hr2).2.2 (Kd.R_reads' hr2).2.1 H3.out).mono ?_); rintro e w3 ⟨v3, rfl, hr3, hb3⟩; obtain ⟨As, cs, rfl⟩ := Kd.R_slice hr3; have hbb3 := below_step hbb2 hb3)
            | (go_at_call 34; (with_reducible refine (gold_Invs.calls k As cs s iv ia 0 _ (Kd.R_reads' hr3).2.2 (Kd.R_reads' hr3).2.1 H4.out).mono ?_); rintro e w4 ⟨v4, rfl, hr4, hb4⟩; obtain ⟨Ai, ci, rfl⟩ := Kd.R_slice hr4; have HBB := Aside0.mk (below_step hbb3 hb4); have HIV := Aside0.mk (Kd.R_reads' hr4).2.2; clear hr1 hi1 hb1 hk1 hr2 hb2 hbb2 hr3 hb3 hbb3 hr4 hb4))
          have HB4 := Aside0.mk (Below.refl w4.heap.size w4)
          clear p1 p2 p3 hgc0
          go_loopg [11, 43] l.length (fun kq v11 v43 w' => ∃ (i : Nat) (ss : List (List Int)), v43 = .int .i64 (i : Int) ∧ Aside0 (i + kq = l.length) ∧ Aside0 (tree_Tree_Through.l4 k iv (l.drop i) i ss = some ss0) ∧ Aside0 (Kd.N (Kd.slice 29 (Kd.int .u64)) 22 w' w4.heap.size (fun _ => True) v11 ss) ∧ Aside0 (ss.length = i) ∧ Aside0 (Below w4.heap.size w4 w'))
          case atStart => exact ⟨0, [], rfl, ⟨Nat.zero_add _⟩, H5, ⟨Kd.N_nil _ _ _ _ _⟩, ⟨rfl⟩, HB4⟩
          case round =>
            clear H5 HB4
            obtain ⟨i, ss, rfl, HI, HAI, HO, HOL, HBI⟩ := hrel
            have hi := HI.out
            cases gk with
            | zero =>
              obtain ⟨A8, c8, rfl⟩ := Kd.N_slice HO.out
              have hil : i = l.length := by omega
              subst hil
              rw [List.drop_length] at HAI
              have hO := Option.some.inj HAI.out
              subst hO
              have q1 : decide ((l.length : Int) < (l.length : Int)) = false := decide_eq_false (by omega)
              have q2 : (l.length < l.length) = False := eq_false (by omega)
              have q3 : decide (l.length < l.length) = false := decide_eq_false (by omega)
              have HR8 := Aside0.mk (Kd.N_reads' HO.out).2.2
              have HL8 := Aside0.mk (Kd.N_reads' HO.out).2.1
              have HB8 := Aside0.mk (below_step HBB.out HBI.out)
              clear hi HAI HO HBI HI HBB HIV HR
              obtain ⟨W, rfl⟩ : ∃ W, W = wr := ⟨_, rfl⟩
              go_wp2
              obtain ⟨n, hn⟩ : ∃ n, L.length = n + 1 := ⟨L.length - 1, by have := HBD.out.1; omega⟩
              rw [show L.length - 1 = n by omega] at H6
              obtain ⟨ad1, _, _, e1, _, _, _⟩ := hk_at2 HT1.out n (by omega)
              subst e1
              have hgc := pw_cell_below HB8.out (hk_blk_cell HG.out 1 _ rfl)
              have hnb : n < 4294967296 := by have := HBD.out.2.1; omega
              have i1 : IntKind.i64.wrap ((L.length : Int) - 1) = (n : Int) := by rw [IntWalk.i64_in _ (by omega)]; omega
              have i2 : wrap64 ((L.length : Int) - 1) = (n : Int) := by unfold wrap64; omega
              have j1 : (0 ≤ (n : Int)) = True := eq_true (by omega)
              have j2 : ((n : Int) ≤ (c1 : Int)) = True := eq_true (by have := HCL.out; omega)
              have j3 : (n ≤ c1) = True := eq_true (by have := HCL.out; omega)
              have HN := Aside0.mk hn
              clear hn
              refine start_ (n := 13) (S := fun w' => w'.cell? ⟨g, 1, none⟩ = some (.slice (some ad1) L.length c1)) (ds := []) #[false, false, false, false, false, false, false, false, false, false, false, false, false] (by kernel_rfl) rfl rfl (hgc) (fun hHeld => ?_)
              refine pure_ (i := 0) (N := some 60) (v := ?_) (a' := ?_) #[true, false, false, false, false, false, false, false, false, false, false, false, false] rfl rfl (by kernel_rfl) (fun _ _ _ h => h) (Or.inl ⟨by rfl, ?_⟩) ?_ ?_
              rotate_left
              · intro w'
                go_simp
                with_reducible rfl
              rotate_left
              · simp only [Act.put, List.setIfInBounds_toArray, List.set_cons_zero, List.set_cons_succ, i64_w, i32_w]
                rfl
              refine pure_ (i := 1) (N := some 61) (v := ?_) (a' := ?_) #[true, true, false, false, false, false, false, false, false, false, false, false, false] rfl rfl (by kernel_rfl) (fun _ _ _ h => h) (Or.inl ⟨by rfl, ?_⟩) ?_ ?_
              rotate_left
              · intro w'
                go_simp
                with_reducible rfl
              rotate_left
              · simp only [Act.put, List.setIfInBounds_toArray, List.set_cons_zero, List.set_cons_succ, i64_w, i32_w]
                rfl
              refine pure_ (i := 2) (N := some 62) (v := ?_) (a' := ?_) #[true, true, true, false, false, false, false, false, false, false, false, false, false] rfl rfl (by kernel_rfl) (fun _ _ _ h => h) (Or.inl ⟨by rfl, ?_⟩) ?_ ?_
              rotate_left
              · intro w'
                go_simp
                with_reducible rfl
              rotate_left
              · simp only [Act.put, List.setIfInBounds_toArray, List.set_cons_zero, List.set_cons_succ, i64_w, i32_w]
                rfl
              refine pure_ (i := 4) (N := some 64) (v := ?_) (a' := ?_) #[true, true, true, false, true, false, false, false, false, false, false, false, false] rfl rfl (by kernel_rfl) (fun _ _ _ h => h) (Or.inl ⟨by rfl, ?_⟩) ?_ ?_
              rotate_left
              · intro w'
                go_simp
                with_reducible rfl
              rotate_left
              · simp only [Act.put, List.setIfInBounds_toArray, List.set_cons_zero, List.set_cons_succ, i64_w, i32_w]
                rfl
              refine pure_ (i := 5) (N := some 65) (v := ?_) (a' := ?_) #[true, true, true, false, true, true, false, false, false, false, false, false, false] rfl rfl (by kernel_rfl) (fun _ _ _ h => h) (Or.inl ⟨by rfl, ?_⟩) ?_ ?_
              rotate_left
              · intro w'
                go_simp
                with_reducible rfl
              rotate_left
              · simp only [Act.put, List.setIfInBounds_toArray, List.set_cons_zero, List.set_cons_succ, i64_w, i32_w]
                rfl
              refine pure_ (i := 6) (N := some 66) (v := ?_) (a' := ?_) #[true, true, true, false, true, true, true, false, false, false, false, false, false] rfl rfl (by kernel_rfl) (fun _ _ _ h => h) (Or.inl ⟨by rfl, ?_⟩) ?_ ?_
              rotate_left
              · intro w'
                go_simp
                with_reducible rfl
              rotate_left
              · simp only [Act.put, List.setIfInBounds_toArray, List.set_cons_zero, List.set_cons_succ, i64_w, i32_w]
                rfl
              refine pure_ (i := 12) (N := some 72) (v := ?_) (a' := ?_) #[true, true, true, false, true, true, true, false, false, false, false, false, true] rfl rfl (by kernel_rfl) (fun _ _ _ h => h) (Or.inl ⟨by rfl, ?_⟩) ?_ ?_
              rotate_left
              · intro w'
                go_simp
                with_reducible rfl
              rotate_left
              · simp only [Act.put, List.setIfInBounds_toArray, List.set_cons_zero, List.set_cons_succ, i64_w, i32_w]
                rfl
              refine take_ (i := 3) (N := some 63) (v := ?_) (a' := ?_) #[true, true, true, true, true, true, true, false, false, false, false, false, true] rfl rfl (by kernel_rfl) (fun _ _ _ h => h) (Or.inl ⟨by rfl, ?_⟩) hHeld ?_ ?_
              rotate_left
              · intro w' s0
                go_simp
                with_reducible rfl
              rotate_left
              · simp only [Act.put, List.setIfInBounds_toArray, List.set_cons_zero, List.set_cons_succ, i64_w, i32_w]
                rfl
              refine take_ (i := 7) (N := some 67) (v := ?_) (a' := ?_) #[true, true, true, true, true, true, true, true, false, false, false, false, true] rfl rfl (by kernel_rfl) (fun _ _ _ h => h) (Or.inl ⟨by rfl, ?_⟩) hHeld ?_ ?_
              rotate_left
              · intro w' s0
                go_simp
                with_reducible rfl
              rotate_left
              · simp only [Act.put, List.setIfInBounds_toArray, List.set_cons_zero, List.set_cons_succ, i64_w, i32_w]
                rfl
              refine pure_ (i := 8) (N := some 68) (v := ?_) (a' := ?_) #[true, true, true, true, true, true, true, true, true, false, false, false, true] rfl rfl (by kernel_rfl) (fun _ _ _ h => h) (Or.inl ⟨by rfl, ?_⟩) ?_ ?_
              rotate_left
              · intro w'
                go_simp
                with_reducible rfl
              rotate_left
              · simp only [Act.put, List.setIfInBounds_toArray, List.set_cons_zero, List.set_cons_succ, i64_w, i32_w]
                rfl
              refine pure_ (i := 9) (N := some 69) (v := ?_) (a' := ?_) #[true, true, true, true, true, true, true, true, true, true, false, false, true] rfl rfl (by kernel_rfl) (fun _ _ _ h => h) (Or.inl ⟨by rfl, ?_⟩) ?_ ?_
              rotate_left
              · intro w'
                go_simp
                with_reducible rfl
              rotate_left
              · simp only [Act.put, List.setIfInBounds_toArray, List.set_cons_zero, List.set_cons_succ, i64_w, i32_w]
                rfl
              refine pure_ (i := 10) (N := some 70) (v := ?_) (a' := ?_) #[true, true, true, true, true, true, true, true, true, true, true, false, true] rfl rfl (by kernel_rfl) (fun _ _ _ h => h) (Or.inl ⟨by rfl, ?_⟩) ?_ ?_
              rotate_left
              · intro w'
                go_simp
                with_reducible rfl
              rotate_left
              · simp only [Act.put, List.setIfInBounds_toArray, List.set_cons_zero, List.set_cons_succ, i64_w, i32_w]
                rfl
              refine pure_ (i := 11) (N := some 71) (v := ?_) (a' := ?_) #[true, true, true, true, true, true, true, true, true, true, true, true, true] rfl rfl (by kernel_rfl) (fun _ _ _ h => h) (Or.inl ⟨by rfl, ?_⟩) ?_ ?_
              rotate_left
              · intro w'
                go_simp
                with_reducible rfl
              rotate_left
              · simp only [Act.put, List.setIfInBounds_toArray, List.set_cons_zero, List.set_cons_succ, i64_w, i32_w]
                rfl
              refine done_ (by kernel_rfl) ?_
              have HB9 := Aside0.mk (below_drew1 HB8.out)
              have HR9 := Aside0.mk (Kd.C_drew HR8.out)
              clear hHeld hgc i1 i2 j1 j2 j3 HR8 HB8
              go_wp2
              go_loopg [11, 72] n (fun kq v11 v72 w' => ∃ (i : Nat) (s2 : List (List Int)) (A9 : Option Addr) (c9 : Nat), v11 = .slice A9 s2.length c9 ∧ v72 = .int .i64 (i : Int) ∧ Aside0 (i + kq = n) ∧ Aside0 (tree_Tree_Through.l5 k ((L.take n).drop i) s2 = some rr) ∧ Aside0 (s2.length ≤ c9) ∧ Aside0 (Kd.C (Kd.slice 29 (Kd.int .u64)) w' A9 s2.length s2) ∧ Aside0 (Below w.heap.size w w'))
              case atStart => exact ⟨0, ss, A8, c8, rfl, rfl, ⟨Nat.zero_add _⟩, H6, HL8, HR9, HB9⟩
              case round =>
                clear H6 HL8 HR9 HB9
                obtain ⟨i, s2, A9, c9, rfl, rfl, HI, HAI, HC9, HR9, HB⟩ := hrel
                have hi := HI.out
                cases gk with
                | zero =>
                  have hil : i = n := by omega
                  subst hil
                  have hlt : (L.take i).length = i := by rw [List.length_take]; have := HN.out; omega
                  have h0 : (L.take i).drop i = [] := by rw [List.drop_eq_nil_iff]; omega
                  rw [h0] at HAI
                  have hO := Option.some.inj HAI.out
                  subst hO
                  obtain ⟨ad6, A6, c6, e6, hx6, hl6, hC6⟩ := hk_at1 HR9.out 0 HRR.out
                  cases e6
                  rw [hk_add0] at hx6
                  rw [HRZ.out] at hx6 hl6 hC6
                  have hrr := HRR.out
                  have q1 : decide ((i : Int) < (i : Int)) = false := decide_eq_false (by omega)
                  have q2 : (i < i) = False := eq_false (by omega)
                  have q3 : decide (i < i) = false := decide_eq_false (by omega)
                  have q4 : (0 < s2.length) = True := eq_true hrr
                  have q5 : ((0 : Int) < (s2.length : Int)) = True := eq_true (by omega)
                  have HC6 := Aside0.mk hC6
                  have HL6 := Aside0.mk hl6
                  clear hi hlt h0 hrr hC6 hl6 HAI
                  go_wp2
                  go_ret2
                  exact ⟨A6, c6, rfl, HL6.out, HC6.out, HB.out⟩
                | succ k1 =>
                  have hil : i < n := by omega
                  have hiL : i < L.length := by have := HN.out; omega
                  obtain ⟨ad5, A5, c5, e5, hx5, hl5, hC5⟩ := hk_at2 HT1.out i hiL
                  cases e5
                  have hd : (L.take n).drop i = L.getD i [] :: (L.take n).drop (i + 1) := by
                    have h1 : i < (L.take n).length := by rw [List.length_take]; omega
                    rw [List.drop_eq_getElem_cons h1, List.getElem_take, List.getD_eq_getElem?_getD, List.getElem?_eq_getElem hiL]; rfl
                  rw [hd] at HAI
                  generalize L.getD i [] = x at hx5 hl5 hC5 HAI
                  obtain ⟨y, hy, hA2⟩ := Option.bind_eq_some_iff.1 (show (tree_joined.f k s2 x).bind (fun s => tree_Tree_Through.l5 k ((L.take n).drop (i + 1)) s) = some rr from HAI.out)
                  have HY := Aside0.mk hy
                  have HA2 := Aside0.mk hA2
                  have HX5 := Aside0.mk (Kd.C_below hC5 HB.out)
                  have HL5 := Aside0.mk hl5
                  have hx5 := pw_cell_below HB.out hx5
                  have c1' : decide ((i : Int) < (n : Int)) = true := decide_eq_true (by omega)
                  have c2' : (i < n) = True := eq_true hil
                  have c3' : (0 ≤ (i : Int)) = True := eq_true (by omega)
                  have c4' : ((i : Int) < (n : Int)) = True := eq_true (by omega)
                  have hib : i < 4294967296 := by omega
                  clear HAI hd hA2 hy hi hl5 hC5 hiL
                  go_wp2_with (go_at_call 35; (with_reducible refine (tree_joined.calls k A9 c9 s2 A5 c5 x y _ HR9.out HX5.out HY.out).mono ?_); rintro e w7 ⟨A7, c7, rfl, hl7, hr7, hb7⟩)
                  have HB7 := Aside0.mk (below_step HB.out hb7)
                  have HR7 := Aside0.mk hr7
                  have HL7 := Aside0.mk hl7
                  have HI7 := Aside0.mk (show (i + 1) + k1 = n by have := HI.out; omega)
                  clear hr7 hl7 hb7 HB HI HR9 HC9 c1' c2' c3' c4'
                  go_wp2
                  go_roundg k1
                  case rel => exact ⟨i + 1, y, A7, c7, rfl, by go_num, HI7, HA2, HL7, HR7, HB7⟩
                  case measure => exact Nat.lt_succ_self _
            | succ k1 =>
              have hil : i < l.length := by omega
              obtain ⟨ad5, e5, hx5⟩ := Kd.at_int HR.out (i : Int) (by omega) (by omega)
              subst e5
              have hd : l.drop i = l.getD i 0 :: l.drop (i + 1) := by rw [List.drop_eq_getElem_cons hil, List.getD_eq_getElem?_getD, List.getElem?_eq_getElem hil]; rfl
              rw [hd] at HAI
              rw [Int.toNat_natCast, show rd l (i : Int) = l.getD i 0 by unfold rd; rw [Int.toNat_natCast]] at hx5
              generalize l.getD i 0 = x at hx5 HAI
              have hAI := HAI.out
              simp only [tree_Tree_Through.l4] at hAI
              by_cases hir : i < iv.length
              · rw [if_pos hir] at hAI
                obtain ⟨m, hm, hA2⟩ := Option.bind_eq_some_iff.1 hAI
                obtain ⟨y, hy, hA2⟩ := Option.bind_eq_some_iff.1 hA2
                obtain ⟨ad9, e9, hx9⟩ := Kd.at_int HIV.out (i : Int) (by omega) (by omega)
                subst e9
                rw [Int.toNat_natCast, show rd iv (i : Int) = iv.getD i 0 by unfold rd; rw [Int.toNat_natCast]] at hx9
                generalize iv.getD i 0 = z at hx9 hm
                have HY := Aside0.mk hy
                have HM := Aside0.mk hm
                have HA2 := Aside0.mk hA2
                have hx5 := pw_cell_below HBI.out (pw_cell_below HBB.out hx5)
                have hx9 := pw_cell_below HBI.out hx9
                have c1 : decide ((i : Int) < (l.length : Int)) = true := decide_eq_true (by omega)
                have c2 : (i < l.length) = True := eq_true hil
                have c3 : (0 ≤ (i : Int)) = True := eq_true (by omega)
                have c4 : ((i : Int) < (l.length : Int)) = True := eq_true (by omega)
                have d1 : (i < iv.length) = True := eq_true hir
                have d2 : ((i : Int) < (iv.length : Int)) = True := eq_true (by omega)
                have hib : i < 4294967296 := by have := HBD.out.2.2; omega
                have HLM := Aside0.mk (show (ss.length + 1) * 24 ≤ 140737488355328 by have := HOL.out; omega)
                have HAK := Aside0.mk (show ∀ k, wr.heap.size ≤ k → True ∧ some k ≠ u11.ownBlock from fun k hk => ⟨trivial, fun e => by have := Kd.N_lt HO.out _ e.symm; omega⟩)
                clear HAI hAI hd hA2 hy hi hm hir
                go_wp2_with (first
                  | (go_at_call 28; (with_reducible refine (gold_Mul.calls x z m _ HM.out).mono ?_); rintro e w5 ⟨rfl, hb5⟩; have hbi5 := below_step HBI.out hb5; have ho5 := Kd.N_below HO.out hb5)
                  | (go_at_call 30; (refine (poly_Trim.calls k (some ⟨w5.heap.size, 0, none⟩) 1 [m] y _ ?sideA ?sideB HY.out).mono ?_); (case sideA => exact Kd.F_now (hk_lit_F [m] (blk_new _ _) (show (1 : Nat) ≤ 9223372036854775807 by decide))); (case sideB => exact Nat.le_refl 1); rintro e w7 ⟨v7, rfl, hr7, hb7⟩; obtain ⟨A7, c7, rfl⟩ := Kd.R_slice hr7; have hb57 := below_step (below_alloc (Below.refl w5.heap.size w5) _) hb7; have hbi7 := below_step hbi5 hb57; have ho7 := Kd.N_below ho5 hb57; have hl7 := (Kd.R_reads' hr7).2.1; have hf7 : Kd.F (Kd.int .u64) w7 (fun k => wr.heap.size ≤ k) A7 y.length y := Kd.F_mono (Kd.R_F (Kd.R_bound hr7)) (fun k hk => Nat.le_trans (Nat.le_trans hb5.size (below_size (below_alloc (Below.refl w5.heap.size w5) _))) hk.2.1))
                  | ((with_reducible refine gate_builtin (b := .append) (xs := #[.tmp 48, .tmp 57]) rfl ?_); at_builtin; refine Kd.N_append (Kd.slice 29 (Kd.int .u64)) (w0 := w4) w4.heap.size rfl (.tmp 48) (.tmp 57) 46 22 (.slice none 0 0) 24 rfl Try.underlying46 hk_infoTu rfl (by decide) (by omega) u11 ss y [.slice A7 y.length c7] (fun _ => True) (fun k => wr.heap.size ≤ k) rfl ?aX ?aP ?aK ?aF ?aO ?aB ?aS ?aL ?_; (case aX => rfl); (case aP => exact Kd.FK_slice_mk hl7 hf7); (case aK => exact HAK.out); (case aF => exact (fun _ _ => trivial)); (case aO => exact ho7); (case aB => exact hbi7); (case aS => exact hbi7.size); (case aL => exact HLM.out); intro v8 w8 ho8 hb8 hg8 hat8))
                have HB8 := Aside0.mk hb8
                have HO8 := Aside0.mk ho8
                have HI8 := Aside0.mk (show (i + 1) + k1 = l.length by have := HI.out; omega)
                have HOL8 := Aside0.mk (show (ss ++ [y]).length = i + 1 by rw [List.length_append, List.length_singleton, HOL.out])
                clear hb8 ho8 hg8 hat8 hbi7 ho7 HBI HO HI HOL HLM HAK hr7 hl7 hf7 d1 d2 hb57 ho5 hbi5 hb5 hb7
                go_wp2
                go_roundg k1
                case rel => exact ⟨i + 1, ss ++ [y], by go_num, HI8, HA2, HO8, HOL8, HB8⟩
                case measure => exact Nat.lt_succ_self _
              · rw [if_neg hir] at hAI; cases hAI
        · rw [if_neg hrr] at H'; cases H'
      · rw [if_neg hb] at H'; cases H'
    · have H' := H.out
      simp only [if_neg he] at H'
      simp only [Option.some.injEq, Prod.mk.injEq] at H'
      obtain ⟨rfl, rfl⟩ := H'
      have g1 : (ie == 0) = false := beq_eq_false_iff_ne.2 he
      have g2 : (ie != 0) = true := bne_iff_ne.2 he
      have g3 := eq_false he
      clear he H
      go_enter Try.func21, Try.ntmps21
      go_wp2_with (first
        | (go_at_call 15; (with_reducible refine (tree_Tree_Top.calls g ps L top w _ (hk_T.state HT.out) (Below.refl _ _) H1.out).mono ?_); rintro e w1 ⟨v1, rfl, hr1, hi1, hb1, hk1⟩; obtain ⟨At, ct, rfl⟩ := Kd.R_slice hr1)
        | (go_at_call 33; (with_reducible refine (poly_Derive.calls k At ct top d _ (Kd.R_reads' hr1).2.2 (Kd.R_reads' hr1).2.1 H2.out).mono ?_); rintro e w2 ⟨v2, rfl, hr2, hb2⟩; obtain ⟨Ad, cd, rfl⟩ := Kd.R_slice hr2; have hbb2 := below_step hb1 hb2)
        | (go_at_call 20; (with_reducible refine (tree_Tree_Values.calls k g ps L Ad cd d s es _ (hk_T.below HT.out hbb2) (Kd.R_reads' hr2).2.2 (Kd.R_reads' hr2).2.1 H3.out).mono ?_); rintro e w3 ⟨v3, rfl, hr3, hb3⟩; obtain ⟨As, cs, rfl⟩ := Kd.R_slice hr3; have hbb3 := below_step hbb2 hb3)
        | (go_at_call 34; (with_reducible refine (gold_Invs.calls k As cs s iv ia ie _ (Kd.R_reads' hr3).2.2 (Kd.R_reads' hr3).2.1 H4.out).mono ?_); rintro e w4 ⟨v4, rfl, hr4, hb4⟩; obtain ⟨Ai, ci, rfl⟩ := Kd.R_slice hr4; have HBB := Aside0.mk (below_step hbb3 hb4); clear hr1 hi1 hb1 hk1 hr2 hb2 hbb2 hr3 hb3 hbb3 hr4 hb4))
      go_ret2
      exact ⟨none, 0, rfl, Nat.le_refl _, Kd.C_nil _ _, HBB.out⟩
  · rw [if_neg hl] at h
    simp only [Option.some.injEq, Prod.mk.injEq] at h
    obtain ⟨rfl, rfl⟩ := h
    have p1 : ((l.length : Int) != (ps.length : Int)) = true := by simp; omega
    have p2 : ((l.length : Int) == (ps.length : Int)) = false := by simp; omega
    have p3 : (l.length == ps.length) = false := by simp; omega
    clear hl
    go_enter Try.func21, Try.ntmps21
    go_wp2
    go_ret2
    exact ⟨none, 0, rfl, Nat.le_refl _, Kd.C_nil _ _, Below.refl _ _⟩

end Go.Proofs.Ytkgakohgbbapaaa.PTreeThrough
