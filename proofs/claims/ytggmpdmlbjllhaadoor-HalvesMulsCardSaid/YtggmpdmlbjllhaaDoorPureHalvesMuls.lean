/- HalvesMuls: for any two rows of 64-bit words the law's call answers true: of rows of at most 16 words, the transform (of 32 words) of their product as polynomials is word by word, in the field, the product of their transforms. Conditions: the rows read as such; math/bits' listed table reads as the row says. -/
import Derived.Test.YtggmpdmlbjllhaaDoorBHalvesMuls
namespace Go.Proofs.YtggmpdmlbjllhaaDoor.Pure
set_option linter.unusedVariables false
set_option linter.unusedSimpArgs false
open Go Go.RowKit Go.Proofs.YtggmpdmlbjllhaaDoor.M Go.Proofs.YtggmpdmlbjllhaaDoor.BHalvesMuls Go.Proofs.YtggmpdmlbjllhaaDoor.PHalvesMuls Go.Proofs.YtggmpdmlbjllhaaDoorW.PrintWords Go.Proofs.YtggmpdmlbjllhaaDoorW.PrintLast Go.Proofs.YtggmpdmlbjllhaaDoorW.PrintMore
theorem HalvesMuls_skip {p q : List Int} : Ev (fun n => abacistlaw09_HalvesMuls.j0 n p q true) true := by
  refine Ev.step (fun n => abacistlaw09_HalvesMuls.j0.eq_2 ..) ?_
  simp -implicitDefEqProofs only [if_true]
  exact Ev.now _
theorem HalvesMuls_l0 (x y z : Nat → F) (h : ∀ i, i < 32 → z i = x i * y i) : Ev (fun n => abacistlaw09_HalvesMuls.l0 n (tab 32 x) (tab 32 y) (tab 32 z) 0) true := by
  refine Ev_loop 32 (fun n i => abacistlaw09_HalvesMuls.l0 n (tab 32 x) (tab 32 y) (tab 32 z) (i : Int)) ?_ (fun i hi ih => ?_) 0 (Nat.zero_le _)
  · refine Ev.step (fun n => abacistlaw09_HalvesMuls.l0.eq_2 ..) ?_
    simp -implicitDefEqProofs only [show ¬ ((32 : Nat) : Int) < 32 by omega, if_false]
    exact Ev.now _
  · refine Ev.step (fun n => abacistlaw09_HalvesMuls.l0.eq_2 ..) ?_
    have c0 : (i : Int) < 32 := by omega
    have c1 : (0 : Int) ≤ (i : Int) := by omega
    have c2 : (i : Int) < ((32 : Nat) : Int) := by omega
    simp -implicitDefEqProofs only [c0, c1, tab_length, c2, if_true, rd_tab hi]
    refine Ev.bind (abacistref02_Mul_ev (un_lo _) (U_un _)) ?_
    rw [cv_un, cv_un, h i hi]
    simp -implicitDefEqProofs only [if_true, nat64_succ (show i < 9223372036854775807 by omega)]
    exact ih
theorem HalvesMuls_main {p q : List Int} (hp : UL p) (hq : UL q) (lp : p.length ≤ 16) (lq : q.length ≤ 16) : Ev (fun n => abacistlaw09_HalvesMuls.j0 n p q false) true := by
  refine Ev.step (fun n => abacistlaw09_HalvesMuls.j0.eq_2 ..) ?_
  have lm : (tr (p.length + q.length) (cvl (co p) (co q))).length ≤ 32 := Nat.le_trans (tr_len_le _ _) (by omega)
  refine Ev.bind (abacistref07_Mul_ev hp hq (by omega)) ?_
  refine Ev.bind (abacistlaw09_pad_ev (by omega)) ?_
  refine Ev.bind (abacistlaw09_pad_ev (by omega)) ?_
  refine Ev.bind (abacistlaw09_pad_ev lm) ?_
  refine Ev.bind (kern2_Transform_ev (k := 5) (UL_padr hp _) (by omega) (.inl rfl) (padr_length _ _)) ?_
  refine Ev.bind (kern2_Transform_ev (k := 5) (UL_padr hq _) (by omega) (.inl rfl) (padr_length _ _)) ?_
  refine Ev.bind (kern2_Transform_ev (k := 5) (UL_padr (UL_tr _ _) _) (by omega) (.inl rfl) (padr_length _ _)) ?_
  simp -implicitDefEqProofs only [if_true, tab_length, show (((2 : Nat) ^ 5 : Nat) : Int) = 32 from rfl, bne_self_eq_false]
  refine Ev.step (fun n => abacistlaw09_HalvesMuls.j1.eq_2 ..) ?_
  refine HalvesMuls_l0 _ _ _ (fun i hi => ?_)
  have hm : ∀ j, co (tr (p.length + q.length) (cvl (co p) (co q))) j = cvl (co p) (co q) j := fun j => co_tr (fun i hi => cvl_out (row_out p) (row_out q) (by omega)) j
  rw [tf_congr (g := co p) (fun j _ => co_padr (by omega) j), tf_congr (g := co q) (fun j _ => co_padr (by omega) j), tf_congr (g := cvl (co p) (co q)) (fun j _ => (co_padr lm j).trans (hm j))]
  exact tf_prod (k := 5) (n := p.length) (m := q.length) (by show _ ≤ 32; omega) _ _ (row_out p) (row_out q) i
theorem HalvesMuls : abacistlaw09_HalvesMuls.Pure := by
  intro p q _ _ hp2 _ _ hq2
  have hp := UL_of_wf hp2
  have hq := UL_of_wf hq2
  refine Ev.rounds (g := fun n => abacistlaw09_HalvesMuls.f n p q) ?_
  unfold abacistlaw09_HalvesMuls.f
  refine Ev.bind abacistlaw09_awake_ev ?_
  simp -implicitDefEqProofs only [if_true]
  by_cases c : (p.length : Int) > 16
  · simp -implicitDefEqProofs only [c, if_true]
    exact HalvesMuls_skip
  · simp -implicitDefEqProofs only [c, if_false]
    by_cases c2 : (q.length : Int) > 16
    · rw [decide_eq_true c2]
      exact HalvesMuls_skip
    · rw [decide_eq_false c2]
      exact HalvesMuls_main hp hq (by omega) (by omega)
end Go.Proofs.YtggmpdmlbjllhaaDoor.Pure
