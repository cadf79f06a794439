/- SeriesMuls: for any two rows of 64-bit words, any number and any byte the law's call answers true: of rows of at most 30 words and a number of at most 30, or beyond what may be: the cut row, the cut product and the cut power (of at most 6) are those of polynomials, cut off; a number that may not be is refused by name. Conditions: both rows read as rows. -/
import Derived.Test.YtnmjomcpkckihaaBSeriesMuls
namespace Go.Proofs.Ytnmjomcpkckihaa.Pure
set_option linter.unusedVariables false
set_option linter.unusedSimpArgs false
open Go Go.RowKit Go.Proofs.Ytnmjomcpkckihaa.M Go.Proofs.Ytnmjomcpkckihaa.BSeriesMuls Go.Proofs.Ytnmjomcpkckihaa.PSeriesMuls Go.Proofs.YtnmjomcpkckihaaW.PrintWords Go.Proofs.YtnmjomcpkckihaaW.PrintLast Go.Proofs.YtnmjomcpkckihaaW.PrintMore
theorem Same_refl (l : List Int) (h : l.length ≤ 100000) : Ev (fun n => abacistref04_Same.f n l l) true := by
  have := abacistref04_Same_ev l l (by omega)
  rw [decide_eq_true rfl] at this
  exact this
def wnt (p : List Int) : Nat → List Int
  | 0 => [1]
  | i + 1 => pmul (wnt p i) p
theorem wnt_row (p : List Int) : ∀ i, IsRow (wnt p i) (ppow (co p) i)
  | 0 => pone_row
  | i + 1 => (pmul_any (wnt p i) p).congr (fun j => by rw [(wnt_row p i).co]; rfl)
theorem wnt_len (p : List Int) (hp : p.length ≤ 30) : ∀ i, (wnt p i).length ≤ 1 + 30 * i
  | 0 => Nat.le_refl _
  | i + 1 => by
    have h1 := wnt_len p hp i
    have h2 := pmul_length (wnt p i) p
    show (pmul (wnt p i) p).length ≤ _
    omega
theorem wnt_UL (p : List Int) : ∀ i, UL (wnt p i)
  | 0 => UL_cons U_one UL_nil
  | i + 1 => UL_tr _ _
theorem muls_arg {p q : List Int} {n e : Int} : Ev (fun k => abacistlaw30_SeriesMuls.j0 k p q n e [] 1 [] 1 [] 1 true) true := by
  refine Ev.step (fun k => abacistlaw30_SeriesMuls.j0.eq_2 ..) ?_
  simp -implicitDefEqProofs only [if_true, List.length_nil, Int.natCast_zero]
  exact Ev.now _
theorem muls_good {p q : List Int} (hp : UL p) (hq : UL q) (hl : p.length ≤ 30) (hl2 : q.length ≤ 30) {n : Nat} (hn : n ≤ 30) {x : Int} {e : Nat} (he : e ≤ 6) (hx : wrap64 (Int.tmod x 7) = (e : Int)) :
    Ev (fun k => abacistlaw30_SeriesMuls.j0 k p q (n : Int) x (tab n (co p)) 0 (tab n (cvl (co p) (co q))) 0 (tab n (ppow (co p) e)) 0 false) true := by
  refine Ev.step (fun k => abacistlaw30_SeriesMuls.j0.eq_2 ..) ?_
  simp -implicitDefEqProofs only [Bool.false_eq_true, if_false]
  refine Ev_loop e (fun k i => abacistlaw30_SeriesMuls.l0 k p q (n : Int) x (tab n (co p)) 0 (tab n (cvl (co p) (co q))) 0 (tab n (ppow (co p) e)) 0 (wnt p i) (i : Int)) ?_ (fun i hi ih => ?_) 0 (Nat.zero_le _)
  · refine Ev.step (fun k => abacistlaw30_SeriesMuls.l0.eq_2 ..) ?_
    simp -implicitDefEqProofs only [hx, Int.lt_irrefl, if_false, if_true]
    have lt : ∀ f : Nat → F, (tab n f).length ≤ 30 := fun f => by rw [tab_length]; exact hn
    refine Ev.bind (abacistlaw30_cut_ev hp (n := n) (by omega) (by omega)) ?_
    refine Ev.bind (Same_refl _ (by rw [tab_length]; omega)) ?_
    simp -implicitDefEqProofs only [if_true]
    refine Ev.bind (abacistref07_Mul_ev hp hq (by omega)) ?_
    have e1 := abacistlaw30_cut_ev (l := pmul p q) (UL_tr _ _) (n := n) (by omega) (by have := pmul_length p q; omega)
    rw [(pmul_any _ _).co] at e1
    refine Ev.bind e1 ?_
    refine Ev.bind (Same_refl _ (by rw [tab_length]; omega)) ?_
    simp -implicitDefEqProofs only [if_true]
    have e2 := abacistlaw30_cut_ev (wnt_UL p e) (n := n) (by omega) (by have := wnt_len p hl e; omega)
    rw [(wnt_row p e).co] at e2
    refine Ev.bind e2 ?_
    refine Ev.bind (Same_refl _ (by rw [tab_length]; omega)) ?_
    exact Ev.now _
  · refine Ev.step (fun k => abacistlaw30_SeriesMuls.l0.eq_2 ..) ?_
    have h1 := wnt_len p hl i
    simp -implicitDefEqProofs only [hx, show (i : Int) < (e : Int) by omega, if_true, nat64_succ (show i < 9223372036854775807 by omega)]
    refine Ev.bind (abacistref07_Mul_ev (wnt_UL p i) hp (by omega)) ?_
    exact ih
theorem SeriesMuls : abacistlaw30_SeriesMuls.Pure := by
  intro p q n x _ _ hp _ _ hq _ hx
  have hp := UL_of_wf hp
  have hq := UL_of_wf hq
  have hx := u8_of_wf hx
  refine Ev.rounds ?_
  unfold abacistlaw30_SeriesMuls.f
  refine Ev.bind abacistlaw30_awake_ev ?_
  simp -implicitDefEqProofs only [if_true, abacistlaw30_most_eq, Option.bind_some]
  obtain ⟨e, he⟩ : ∃ e : Nat, e = x.toNat % 7 := ⟨_, rfl⟩
  have hm : Int.tmod x 7 = (e : Int) := by rw [Int.tmod_eq_emod_of_nonneg hx.1]; omega
  have hw : IntKind.u64.wrap (Int.tmod x 7) = (e : Int) := by rw [hm]; exact wu64_of (U_nat (by omega))
  have hw2 : wrap64 (Int.tmod x 7) = (e : Int) := by rw [hm]; exact wrap64_of (by omega) (by omega)
  by_cases c : p.length ≤ 30 ∧ q.length ≤ 30 ∧ (n ≤ 30 ∨ n > 65536)
  · simp -implicitDefEqProofs only [decide_eq_true c, if_true, hw]
    obtain ⟨hl, hl2, hn⟩ := c
    by_cases c1 : n < 0
    · refine Ev.bind (series_Cut_arg (.inl c1)) ?_
      refine Ev.bind (series_Mul_arg (.inl c1)) ?_
      refine Ev.bind (series_Power_arg (.inl c1)) ?_
      simp -implicitDefEqProofs only [c1, if_true]
      exact muls_arg
    by_cases c2 : n > 65536
    · refine Ev.bind (series_Cut_arg (.inr c2)) ?_
      refine Ev.bind (series_Mul_arg (.inr c2)) ?_
      refine Ev.bind (series_Power_arg (.inr c2)) ?_
      simp -implicitDefEqProofs only [c1, if_false, decide_eq_true c2]
      exact muls_arg
    obtain ⟨m, rfl⟩ := Int.eq_ofNat_of_zero_le (show 0 ≤ n by omega)
    refine Ev.bind (series_Cut_ev hp (by omega) (by omega)) ?_
    refine Ev.bind (series_Mul_ev hp hq (by omega) (by omega) (by omega)) ?_
    refine Ev.bind (series_Power_ev hp (by omega) (by omega) (e := e) (by omega)) ?_
    simp -implicitDefEqProofs only [c1, if_false, decide_eq_false c2]
    exact muls_good hp hq hl hl2 (by omega) (by omega) hw2
  · simp -implicitDefEqProofs only [decide_eq_false c, Bool.false_eq_true, if_false]
    exact Ev.now _
end Go.Proofs.Ytnmjomcpkckihaa.Pure
