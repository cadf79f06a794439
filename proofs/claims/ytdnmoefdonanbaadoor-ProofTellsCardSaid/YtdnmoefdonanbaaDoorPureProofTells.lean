/- ProofTells: for any rows x and y, any number for a direction and any word z the law's call answers true: whether y's value at z is x's, whether first words and sums, and sums of squares, go together, is told as by the document's sums (rows of at most 32 words); what is refused is refused by name. Conditions: the rows read as such; math/bits' listed table reads as the row says. -/
import Derived.Test.YtdnmoefdonanbaaDoorBProofTells
namespace Go.Proofs.YtdnmoefdonanbaaDoor.Pure
set_option linter.unusedVariables false
set_option linter.unusedSimpArgs false
open Go Go.RowKit Go.Proofs.YtdnmoefdonanbaaDoor.M Go.Proofs.YtdnmoefdonanbaaDoor.BProofTells Go.Proofs.YtdnmoefdonanbaaDoor.PProofTells Go.Proofs.YtdnmoefdonanbaaDoorW.PrintWords Go.Proofs.YtdnmoefdonanbaaDoorW.PrintLast Go.Proofs.YtdnmoefdonanbaaDoorW.PrintMore
theorem ProofTells_skip {x y : List Int} {d z : Int} : Ev (fun n => abacistlaw28_ProofTells.j0 n x y d z true) true := by
  refine Ev.step (fun n => abacistlaw28_ProofTells.j0.eq_2 ..) ?_
  exact Ev.now _
theorem ProofTells_bad {x y : List Int} {d z e p15 k : Int} {p : Bool} (he : e ≠ 0) : Ev (fun n => abacistlaw28_ProofTells.j4 n x y d z false e false e false e p e k) true := by
  refine Ev.step (fun n => abacistlaw28_ProofTells.j4.eq_2 ..) ?_
  simp -implicitDefEqProofs only [he, if_false, if_true]
  exact Ev.now _
theorem ProofTells_j1_bad {x y : List Int} {d z e k : Int} (he : e ≠ 0) : Ev (fun n => abacistlaw28_ProofTells.j1 n x y d z false e false e false e false e e k) true := by
  have h4 : Ev (fun n => abacistlaw28_ProofTells.j4 n x y d z false e false e false e false e k) true := ProofTells_bad (p15 := 0) he
  have h3 : Ev (fun n => abacistlaw28_ProofTells.j3 n x y d z false e false e false e false e k false) true := by
    refine Ev.step (fun n => abacistlaw28_ProofTells.j3.eq_2 ..) ?_
    exact h4
  have h2 : Ev (fun n => abacistlaw28_ProofTells.j2 n x y d z false e false e false e false e k false) true := by
    refine Ev.step (fun n => abacistlaw28_ProofTells.j2.eq_2 ..) ?_
    simp -implicitDefEqProofs only [he, if_false]
    exact h3
  refine Ev.step (fun n => abacistlaw28_ProofTells.j1.eq_2 ..) ?_
  simp -implicitDefEqProofs only [he, if_false, if_true]
  exact h2
theorem ProofTells_j1_kind {x y : List Int} {d z k : Int} {p : Bool} (hd : ¬ (d = 0 ∨ d = 1)) : Ev (fun n => abacistlaw28_ProofTells.j1 n x y d z false 18 false 18 false 18 p 0 0 k) true := by
  have h4 : Ev (fun n => abacistlaw28_ProofTells.j4 n x y d z false 18 false 18 false 18 p 18 k) true := ProofTells_bad (p15 := 0) (by omega)
  have h3 : Ev (fun n => abacistlaw28_ProofTells.j3 n x y d z false 18 false 18 false 18 p 0 k true) true := by
    refine Ev.step (fun n => abacistlaw28_ProofTells.j3.eq_2 ..) ?_
    exact h4
  have e1 : (d != 1) = true := bne_iff_ne.2 (fun e => hd (.inr e))
  have h2 : Ev (fun n => abacistlaw28_ProofTells.j2 n x y d z false 18 false 18 false 18 p 0 k false) true := by
    refine Ev.step (fun n => abacistlaw28_ProofTells.j2.eq_2 ..) ?_
    have h2' : Ev (fun n => if d = 0 then abacistlaw28_ProofTells.j3 n x y d z false 18 false 18 false 18 p 0 k false else abacistlaw28_ProofTells.j3 n x y d z false 18 false 18 false 18 p 0 k (d != 1)) true := by
      simp -implicitDefEqProofs only [show ¬ d = 0 from fun e => hd (.inl e), if_false, e1]
      exact h3
    exact h2'
  refine Ev.step (fun n => abacistlaw28_ProofTells.j1.eq_2 ..) ?_
  exact h2
theorem beq_turn (a b : Int) : (a == b) = (b == a) := by
  by_cases h : a = b
  · rw [h]
  · rw [beq_eq_false_iff_ne.2 h, beq_eq_false_iff_ne.2 (fun e => h e.symm)]
theorem ProofTells_j6 {x y : List Int} (hx : UL x) (hy : UL y) {k : Nat} (hk : k ≤ 5) {d z : Int} (hd : d = 0 ∨ d = 1) (hxl : x.length = 2 ^ k) (hl : y.length = 2 ^ k) (hz : U z) :
    Ev (fun n => abacistlaw28_ProofTells.j6 n x y d z (fitsB k d (co x) (co y) z) 0 (endsB k d (co x) (co y)) 0 (fitsB k d (co x) (co y) z) 0 (powB k (co x) (co y)) (k : Int) (un (endX k d (co x))) (un (endY k d (co y))) (un (Sm (2 ^ k) (fun i => co x i * co x (tn (2 ^ k) i)))) (un (Sm (2 ^ k) (fun i => co y i * co y i)))) true := by
  have hp := two_pow_lt (n := k) (m := 5) hk
  have hp0 := Nat.two_pow_pos k
  have e : wrap64 (1 - d) = 1 - d := by unfold wrap64; omega
  have x0 : abacistref02_Of.f (rd x 0) = some (un (co x 0)) := by rw [abacistref02_Of_eq (U_rd hx 0).1]; rfl
  have y0 : abacistref02_Of.f (rd y 0) = some (un (co y 0)) := by rw [abacistref02_Of_eq (U_rd hy 0).1]; rfl
  refine Ev.step (fun n => abacistlaw28_ProofTells.j6.eq_2 ..) ?_
  refine Ev.bind (abacistref07_At_ev hx (by omega) hz) ?_
  rw [e]
  refine Ev.bind (abacistref08_Transform_ev hy (by omega) (show 1 - d = 0 ∨ 1 - d = 1 by omega) hl) ?_
  refine Ev.bind (abacistref07_At_ev (UL_tab _ _) (by rw [tab_length]; omega) hz) ?_
  rw [tab_length, ev_congr (n := 2 ^ k) (cv z) (g := tf k (1 - d) (co y)) (fun i hi => co_tab_lt hi), hxl, hl, x0, y0, beq_turn (un (ev (2 ^ k) (co x) (cv z)))]
  have ef : (fitsB k d (co x) (co y) z == (un (ev (2 ^ k) (tf k (1 - d) (co y)) (cv z)) == un (ev (2 ^ k) (co x) (cv z)))) = true := beq_self_eq_true _
  have hm : Ev (fun n => (abacistref02_Mul.f n (un (Sm (2 ^ k) (fun i => co x i * co x (tn (2 ^ k) i)))) (IntKind.u64.wrap ((2 ^ k : Nat) : Int))).bind fun t356 => (some (powB k (co x) (co y) == (t356 == un (Sm (2 ^ k) (fun i => co y i * co y i)))))) true := by
    rw [wu64_of (U_nat (n := 2 ^ k) (by omega))]
    refine Ev.bind (abacistref02_Mul_ev (un_lo _) (U_nat (by omega))) ?_
    rw [cv_un]
    have : (powB k (co x) (co y) == (un (Sm (2 ^ k) (fun i => co x i * co x (tn (2 ^ k) i)) * cv ((2 ^ k : Nat) : Int)) == un (Sm (2 ^ k) (fun i => co y i * co y i)))) = true := beq_self_eq_true _
    rw [this]
    exact Ev.now _
  simp -implicitDefEqProofs only [if_true, ef, Option.bind_some, show (0 : Int) < ((2 ^ k : Nat) : Int) by omega]
  by_cases c : un (endX k d (co x)) = un (co y 0)
  · have eb : (endsB k d (co x) (co y) == (un (endY k d (co y)) == un (co x 0))) = true := by
      unfold endsB; rw [c, beq_self_eq_true, Bool.true_and]; exact beq_self_eq_true _
    simp -implicitDefEqProofs only [if_true, c, eb]
    exact hm
  · have eb : (endsB k d (co x) (co y) == false) = true := by
      unfold endsB; rw [beq_eq_false_iff_ne.2 c, Bool.false_and]; rfl
    simp -implicitDefEqProofs only [if_true, c, if_false, eb]
    exact hm
theorem ProofTells_l0 {x y : List Int} (hx : UL x) (hy : UL y) {k : Nat} (hk : k ≤ 5) {d z : Int} (hd : d = 0 ∨ d = 1) (hxl : x.length = 2 ^ k) (hl : y.length = 2 ^ k) (hz : U z) :
    Ev (fun n => abacistlaw28_ProofTells.l0 n x y d z (fitsB k d (co x) (co y) z) 0 (endsB k d (co x) (co y)) 0 (fitsB k d (co x) (co y) z) 0 (powB k (co x) (co y)) (k : Int) 0 0 0 0 0) true := by
  have hp := two_pow_lt (n := k) (m := 5) hk
  have hp0 := Nat.two_pow_pos k
  have ez : ∀ f : Nat → F, un (Sm 0 f) = 0 := fun f => by rw [Sm_zero, un_zero]
  have goal : Ev (fun n => abacistlaw28_ProofTells.l0 n x y d z (fitsB k d (co x) (co y) z) 0 (endsB k d (co x) (co y)) 0 (fitsB k d (co x) (co y) z) 0 (powB k (co x) (co y)) (k : Int) (un (Sm 0 (co x))) (un (Sm 0 (co y))) (un (Sm 0 (fun i => co x i * co x (tn (2 ^ k) i)))) (un (Sm 0 (fun i => co y i * co y i))) ((0 : Nat) : Int)) true := by
    refine Ev_loop (2 ^ k) (fun n i => abacistlaw28_ProofTells.l0 n x y d z (fitsB k d (co x) (co y) z) 0 (endsB k d (co x) (co y)) 0 (fitsB k d (co x) (co y) z) 0 (powB k (co x) (co y)) (k : Int) (un (Sm i (co x))) (un (Sm i (co y))) (un (Sm i (fun i => co x i * co x (tn (2 ^ k) i)))) (un (Sm i (fun i => co y i * co y i))) (i : Int)) ?_ (fun i hi ih => ?_) 0 (Nat.zero_le _)
    · have last := ProofTells_j6 hx hy hk hd hxl hl hz
      refine Ev.step (fun n => abacistlaw28_ProofTells.l0.eq_2 ..) ?_
      rw [hxl]
      rcases hd with rfl | rfl
      · rw [show endX k 0 (co x) = Sm (2 ^ k) (co x) from if_neg (by omega), show endY k 0 (co y) = Sm (2 ^ k) (co y) * sh k from if_neg (by omega)] at last
        simp -implicitDefEqProofs only [Int.lt_irrefl, if_false, show ¬ (0 : Int) = 1 by omega]
        refine Ev.bind (abacistref08_Share_ev (by omega)) ?_
        refine Ev.bind (abacistref02_Mul_ev (un_lo _) (U_un _)) ?_
        rw [cv_un, cv_un]
        exact last
      · rw [show endX k 1 (co x) = Sm (2 ^ k) (co x) * sh k from if_pos rfl, show endY k 1 (co y) = Sm (2 ^ k) (co y) from if_pos rfl] at last
        simp -implicitDefEqProofs only [Int.lt_irrefl, if_false, if_true]
        refine Ev.bind (abacistref08_Share_ev (by omega)) ?_
        refine Ev.bind (abacistref02_Mul_ev (un_lo _) (U_un _)) ?_
        rw [cv_un, cv_un]
        exact last
    · refine Ev.step (fun n => abacistlaw28_ProofTells.l0.eq_2 ..) ?_
      rw [hxl, hl]
      have ht := tn_lt (i := i) hp0
      simp -implicitDefEqProofs only [turn_at hi (by omega), show (i : Int) < ((2 ^ k : Nat) : Int) by omega, show (0 : Int) ≤ (i : Int) by omega, if_true, show ¬ ((2 ^ k : Nat) : Int) = 0 by omega, if_false, show (0 : Int) ≤ ((tn (2 ^ k) i : Nat) : Int) by omega, show ((tn (2 ^ k) i : Nat) : Int) < ((2 ^ k : Nat) : Int) by omega,
        abacistref02_Add_eq (un_lo _) (U_rd hx _).1, abacistref02_Add_eq (un_lo _) (U_rd hy _).1, Option.bind_some]
      refine Ev.bind (abacistref02_Mul_ev (U_rd hx _).1 (U_rd hx _)) ?_
      rw [abacistref02_Add_eq (un_lo _) (un_lo _)]
      simp -implicitDefEqProofs only [Option.bind_some]
      refine Ev.bind (abacistref02_Mul_ev (U_rd hy _).1 (U_rd hy _)) ?_
      rw [abacistref02_Add_eq (un_lo _) (un_lo _)]
      simp -implicitDefEqProofs only [Option.bind_some, cv_un, cv_rd, nat64_succ (show i < 9223372036854775807 by omega)]
      exact ih
  rw [ez, ez, ez, ez] at goal
  exact goal
theorem ProofTells_j1_ok {x y : List Int} (hx : UL x) (hy : UL y) {k : Nat} (hk : k ≤ 5) {d z : Int} (hd : d = 0 ∨ d = 1) (hxl : x.length = 2 ^ k) (hl : y.length = 2 ^ k) (hz : U z) :
    Ev (fun n => abacistlaw28_ProofTells.j1 n x y d z (fitsB k d (co x) (co y) z) 0 (endsB k d (co x) (co y)) 0 (fitsB k d (co x) (co y) z) 0 (powB k (co x) (co y)) 0 0 (k : Int)) true := by
  have h4 : Ev (fun n => abacistlaw28_ProofTells.j4 n x y d z (fitsB k d (co x) (co y) z) 0 (endsB k d (co x) (co y)) 0 (fitsB k d (co x) (co y) z) 0 (powB k (co x) (co y)) 0 (k : Int)) true := by
    refine Ev.step (fun n => abacistlaw28_ProofTells.j4.eq_2 ..) ?_
    simp -implicitDefEqProofs only [if_true]
    exact ProofTells_l0 hx hy hk hd hxl hl hz
  have h3 : Ev (fun n => abacistlaw28_ProofTells.j3 n x y d z (fitsB k d (co x) (co y) z) 0 (endsB k d (co x) (co y)) 0 (fitsB k d (co x) (co y) z) 0 (powB k (co x) (co y)) 0 (k : Int) false) true := by
    refine Ev.step (fun n => abacistlaw28_ProofTells.j3.eq_2 ..) ?_
    exact h4
  have h2 : Ev (fun n => abacistlaw28_ProofTells.j2 n x y d z (fitsB k d (co x) (co y) z) 0 (endsB k d (co x) (co y)) 0 (fitsB k d (co x) (co y) z) 0 (powB k (co x) (co y)) 0 (k : Int) false) true := by
    refine Ev.step (fun n => abacistlaw28_ProofTells.j2.eq_2 ..) ?_
    rcases hd with rfl | rfl
    · exact h3
    · exact h3
  refine Ev.step (fun n => abacistlaw28_ProofTells.j1.eq_2 ..) ?_
  exact h2
theorem ProofTells_j0 {x y : List Int} (hx : UL x) (hy : UL y) (h32 : x.length ≤ 32) {d z : Int} (hz : U z) : Ev (fun n => abacistlaw28_ProofTells.j0 n x y d z false) true := by
  have step : Ev (fun n => (proof_Fits.f n x y d z).bind fun bt319 => ((proof_Ends.f n x y d).bind fun bt321 => ((proof_All.f n x y d (([z] : List Int))).bind fun bt326 => ((proof_Power.f n x y).bind fun bt328 => ((abacistref03_Fits.f n (y.length : Int)).bind fun t330 => (if (x.length : Int) = (y.length : Int) then (if t330 < 0 then (abacistlaw28_ProofTells.j1 n x y d z bt319.1 bt319.2 bt321.1 bt321.2 bt326.1 bt326.2 bt328.1 bt328.2 4 t330) else (abacistlaw28_ProofTells.j1 n x y d z bt319.1 bt319.2 bt321.1 bt321.2 bt326.1 bt326.2 bt328.1 bt328.2 0 t330)) else (abacistlaw28_ProofTells.j1 n x y d z bt319.1 bt319.2 bt321.1 bt321.2 bt326.1 bt326.2 bt328.1 bt328.2 19 t330))))))) true := by
    by_cases hxy : x.length = y.length
    · rcases fits_cases (y.length : Int) with ⟨k, hk, ek⟩ | h0
      · have el : y.length = 2 ^ k := by omega
        have hxl : x.length = 2 ^ k := by omega
        have hk5 : k ≤ 5 := by
          have : ¬ 6 ≤ k := fun hh => by have := two_pow_lt hh; omega
          omega
        have hf := abacistref03_Fits_yes hk
        rw [← ek] at hf
        by_cases hd : d = 0 ∨ d = 1
        · have hfit := proof_Fits_ev hx hy (k := k) (by omega) hd hxl el hz
          refine Ev.bind hfit ?_
          refine Ev.bind (proof_Ends_ev hx hy (k := k) (by omega) hd hxl el) ?_
          refine Ev.bind (proof_All_one hx hy hz (k := k) (by omega) hd hxl el) ?_
          refine Ev.bind (proof_Power_ev hx hy (k := k) (by omega) hxl el) ?_
          refine Ev.bind hf ?_
          simp -implicitDefEqProofs only [show (x.length : Int) = (y.length : Int) by omega, if_true, show ¬ (k : Int) < 0 by omega, if_false]
          exact ProofTells_j1_ok hx hy hk5 hd hxl el hz
        · have hp := proof_pair_same (x := x) hxy (proof_check_kind (l := y) (k := k) (by omega) hd el)
          refine Ev.bind (proof_Fits_no (by omega) hp) ?_
          refine Ev.bind (proof_Ends_no (by omega) hp) ?_
          refine Ev.bind (proof_All_no (by omega) hp) ?_
          refine Ev.bind (proof_Power_ev hx hy (k := k) (by omega) hxl el) ?_
          refine Ev.bind hf ?_
          simp -implicitDefEqProofs only [show (x.length : Int) = (y.length : Int) by omega, if_true, show ¬ (k : Int) < 0 by omega, if_false]
          exact ProofTells_j1_kind hd
      · have hp := fun d => proof_pair_same (x := x) hxy (proof_check_no (l := y) (d := d) h0)
        refine Ev.bind (proof_Fits_no (by omega) (hp d)) ?_
        refine Ev.bind (proof_Ends_no (by omega) (hp d)) ?_
        refine Ev.bind (proof_All_no (by omega) (hp d)) ?_
        refine Ev.bind (proof_Power_no (by omega) (hp 0)) ?_
        refine Ev.bind (abacistref03_Fits_no h0) ?_
        simp -implicitDefEqProofs only [show (x.length : Int) = (y.length : Int) by omega, if_true, show (-1 : Int) < 0 by omega]
        exact ProofTells_j1_bad (by omega)
    · have hp := fun d => proof_pair_odd (d := d) hxy
      refine Ev.bind (proof_Fits_no (by omega) (hp d)) ?_
      refine Ev.bind (proof_Ends_no (by omega) (hp d)) ?_
      refine Ev.bind (proof_All_no (by omega) (hp d)) ?_
      refine Ev.bind (proof_Power_no (by omega) (hp 0)) ?_
      have last : ∀ t, Ev (fun n => abacistlaw28_ProofTells.j1 n x y d z false 19 false 19 false 19 false 19 19 t) true := fun t => ProofTells_j1_bad (by omega)
      rcases fits_cases (y.length : Int) with ⟨k, hk, ek⟩ | h0
      · have hf := abacistref03_Fits_yes hk
        rw [← ek] at hf
        refine Ev.bind hf ?_
        simp -implicitDefEqProofs only [show ¬ (x.length : Int) = (y.length : Int) by omega, if_false]
        exact last _
      · refine Ev.bind (abacistref03_Fits_no h0) ?_
        simp -implicitDefEqProofs only [show ¬ (x.length : Int) = (y.length : Int) by omega, if_false]
        exact last _
  refine Ev.step (fun n => abacistlaw28_ProofTells.j0.eq_2 ..) ?_
  exact step
theorem ProofTells : abacistlaw28_ProofTells.Pure := by
  intro x y d z hl _ hl2 hl' _ hl2' hd0 hz0
  have hx := UL_of_wf hl2
  have hy := UL_of_wf hl2'
  have hz := U_of_wf hz0
  refine Ev.rounds (g := fun n => abacistlaw28_ProofTells.f n x y d z) ?_
  unfold abacistlaw28_ProofTells.f
  refine Ev.bind abacistlaw28_awake_ev ?_
  simp -implicitDefEqProofs only [if_true]
  by_cases c : (x.length : Int) > 32
  · simp -implicitDefEqProofs only [c, if_true]
    exact ProofTells_skip
  · simp -implicitDefEqProofs only [c, if_false]
    by_cases c2 : (y.length : Int) > 32
    · rw [decide_eq_true c2]
      exact ProofTells_skip
    · rw [decide_eq_false c2]
      exact ProofTells_j0 hx hy (by omega) hz
end Go.Proofs.YtdnmoefdonanbaaDoor.Pure
