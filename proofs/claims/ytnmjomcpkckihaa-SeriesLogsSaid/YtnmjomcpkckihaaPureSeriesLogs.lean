/- SeriesLogs: for any two rows of 64-bit words and any number the law's call answers true: of rows of at most 30 words and a number of at most 20, the logarithm and the exponential have the derivatives that the document tells, and the one undoes the other; a row whose first word is another is refused by name. Conditions: both rows read as rows. -/
import Derived.Test.YtnmjomcpkckihaaBSeriesLogs
namespace Go.Proofs.Ytnmjomcpkckihaa.Pure
set_option linter.unusedVariables false
set_option linter.unusedSimpArgs false
open Go Go.RowKit Go.Proofs.Ytnmjomcpkckihaa.M Go.Proofs.Ytnmjomcpkckihaa.BSeriesLogs Go.Proofs.Ytnmjomcpkckihaa.PSeriesLogs Go.Proofs.YtnmjomcpkckihaaW.PrintWords Go.Proofs.YtnmjomcpkckihaaW.PrintLast Go.Proofs.YtnmjomcpkckihaaW.PrintMore
theorem Same_refl (l : List Int) (h : l.length ≤ 100000) : Ev (fun n => abacistref04_Same.f n l l) true := by
  have := abacistref04_Same_ev l l (by omega)
  rw [decide_eq_true rfl] at this
  exact this
theorem tr_co (l : List Int) : co (tr l.length (co l)) = co l := co_trF (row_out l)
/-- The derivative of a row's first words, cut off. -/
theorem cut_der {n : Nat} (hn : n ≤ 1000) (f : Nat → F) : Ev (fun k => abacistref07_Derive.f k (tab n f)) (tr (n - 1) (der (co (tab n f)))) := by
  have h := abacistref07_Derive_ev (l := tab n f) (UL_tab _ _) (by rw [tab_length]; omega)
  rw [tab_length] at h
  exact h
theorem co_cut_der {n : Nat} (f : Nat → F) : ∀ i, i + 1 < n → co (tr (n - 1) (der (co (tab n f)))) i = der f i := fun i hi => by
  rw [co_tr', if_pos (by omega)]
  unfold der
  rw [co_tab_lt hi]
theorem mx_m {n : Nat} (hn : n ≤ 1000) : mx (wrap64 ((n : Int) - 1)) 0 = ((n - 1 : Nat) : Int) := by
  rw [wrap64_of (by omega) (by omega)]
  unfold mx
  split <;> omega
theorem logs_j4 {q : List Int} (hq : UL q) (hl : q.length ≤ 30) {n : Nat} (hn : n ≤ 20) {E : Nat → F} (hE : expOk (co q) E n) (hq0 : co q 0 = 0) :
    Ev (fun k => abacistlaw30_SeriesLogs.j4 k q (n : Int) (tab n E) false) true := by
  refine Ev.step (fun k => abacistlaw30_SeriesLogs.j4.eq_2 ..) ?_
  simp -implicitDefEqProofs only [Bool.false_eq_true, if_false]
  by_cases c : (n : Int) = 0
  · simp -implicitDefEqProofs only [c, if_true]
    exact Ev.now _
  simp -implicitDefEqProofs only [c, if_false]
  have h0 : co (tab n E) 0 = 1 := by rw [co_tab_lt (by omega)]; exact hE.1
  obtain ⟨I, Lg, hI, hL0, hLd, hEv⟩ := series_Log_ev (p := tab n E) (UL_tab _ _) (by rw [tab_length]; omega) (n := n) (by omega) h0
  refine Ev.bind hEv ?_
  simp -implicitDefEqProofs only [if_true]
  refine Ev.bind (abacistlaw30_cut_ev hq (n := n) (by omega) (by omega)) ?_
  have hI' : ∀ i, i < n → cvl E I i = pone i := fun i hi => by
    rw [← hI i hi]
    exact cvl_upto (n := n) (fun j hj => (co_tab_lt hj).symm) (fun _ _ => rfl) hi
  have e : tab n Lg = tab n (co q) := tab_congr (der_only (by omega) (fun _ => by rw [hL0, hq0]) (fun i hi => by
    rw [hLd i hi, ← log_of hE hI' hi]
    exact cvl_upto (n := i + 1) (fun j hj => by unfold der; rw [co_tab_lt (by omega)]) (fun _ _ => rfl) (Nat.lt_succ_self i)))
  rw [e]
  refine Ev.bind (Same_refl _ (by rw [tab_length]; omega)) ?_
  exact Ev.now _
theorem logs_j3 {q : List Int} (hq : UL q) (hl : q.length ≤ 30) {n : Nat} (hn : n ≤ 20) {E : Nat → F} (hE : expOk (co q) E n) (hq0 : co q 0 = 0) :
    Ev (fun k => abacistlaw30_SeriesLogs.j3 k q (n : Int) (tab n E) 0 ((n - 1 : Nat) : Int)) true := by
  refine Ev.step (fun k => abacistlaw30_SeriesLogs.j3.eq_2 ..) ?_
  have main : ∀ z : Bool → Nat → Option Bool, Ev (fun k => z false k) true → Ev (fun k => (abacistref07_Derive.f k (tab n E)).bind fun t445 => ((abacistlaw30_cut.f k t445 ((n - 1 : Nat) : Int)).bind fun t448 => ((abacistlaw30_cut.f k q (n : Int)).bind fun t451 => ((abacistref07_Derive.f k t451).bind fun t454 => ((abacistref07_Mul.f k (tab n E) t454).bind fun t457 => ((abacistlaw30_cut.f k t457 ((n - 1 : Nat) : Int)).bind fun t460 => ((abacistref04_Same.f k t448 t460).bind fun t463 => z (!t463) k))))))) true := by
    intro z hz
    refine Ev.bind (cut_der (by omega) E) ?_
    have l1 := tr_len_le (n - 1) (der (co (tab n E)))
    refine Ev.bind (abacistlaw30_cut_ev (UL_tr _ _) (n := n - 1) (by omega) (by omega)) ?_
    refine Ev.bind (abacistlaw30_cut_ev hq (n := n) (by omega) (by omega)) ?_
    refine Ev.bind (cut_der (by omega) (co q)) ?_
    have l2 := tr_len_le (n - 1) (der (co (tab n (co q))))
    refine Ev.bind (abacistref07_Mul_ev (UL_tab _ _) (UL_tr _ _) (by rw [tab_length]; omega)) ?_
    have l3 := tr_len_le ((tab n E).length + (tr (n - 1) (der (co (tab n (co q))))).length) (cvl (co (tab n E)) (co (tr (n - 1) (der (co (tab n (co q)))))))
    rw [tab_length] at l3 ⊢
    refine Ev.bind (abacistlaw30_cut_ev (UL_tr _ _) (n := n - 1) (by omega) (by omega)) ?_
    have hm : co (tr (n + (tr (n - 1) (der (co (tab n (co q))))).length) (cvl (co (tab n E)) (co (tr (n - 1) (der (co (tab n (co q)))))))) = cvl (co (tab n E)) (co (tr (n - 1) (der (co (tab n (co q)))))) := co_trF (fun i hi => cvl_out (n := n) (m := (tr (n - 1) (der (co (tab n (co q))))).length) (fun j hj => co_out (by rw [tab_length]; exact hj)) (row_out _) (by omega))
    rw [hm]
    have e : tab (n - 1) (co (tr (n - 1) (der (co (tab n E))))) = tab (n - 1) (cvl (co (tab n E)) (co (tr (n - 1) (der (co (tab n (co q))))))) := tab_congr (fun i hi => by
      rw [co_cut_der E i (by omega), hE.2 i (by omega), cvl_comm]
      exact cvl_upto (n := i + 1) (fun j hj => (co_tab_lt (by omega)).symm) (fun j hj => (co_cut_der (co q) j (by omega)).symm) (Nat.lt_succ_self i))
    rw [e]
    refine Ev.bind (Same_refl _ (by rw [tab_length]; omega)) ?_
    exact hz
  have m := main (fun b k => abacistlaw30_SeriesLogs.j4 k q (n : Int) (tab n E) b) (logs_j4 hq hl hn hE hq0)
  simp -implicitDefEqProofs only [tab_length, if_true]
  by_cases c : (n : Int) > 0
  · have r0 : rd (tab n E) 0 = 1 := by
      rw [show rd (tab n E) 0 = un (E 0) from rd_tab (i := 0) (by omega), hE.1, un_one]
    simp -implicitDefEqProofs only [c, if_true, r0]
    exact m
  · simp -implicitDefEqProofs only [c, if_false]
    exact m
theorem logs_j2 {p q : List Int} (hp : UL p) (hl : p.length ≤ 30) {n : Nat} (hn : n ≤ 20) (hp0 : co p 0 = 1) {Lg : Nat → F} (hL0 : Lg 0 = 0) (hL : ∀ i, i + 1 < n → der (co p) i = cvl (der Lg) (co p) i) {x9 : List Int} {x10 : Int}
    (h3 : Ev (fun k => abacistlaw30_SeriesLogs.j3 k q (n : Int) x9 x10 ((n - 1 : Nat) : Int)) true) :
    Ev (fun k => abacistlaw30_SeriesLogs.j2 k p q (n : Int) (tab n Lg) x9 x10 ((n - 1 : Nat) : Int) false) true := by
  refine Ev.step (fun k => abacistlaw30_SeriesLogs.j2.eq_2 ..) ?_
  simp -implicitDefEqProofs only [Bool.false_eq_true, if_false]
  have h0 : co (tab n Lg) 0 = 0 := by
    by_cases c : 0 < n
    · rw [co_tab_lt c, hL0]
    · rw [co_out (by rw [tab_length]; omega)]
  obtain ⟨S, hS, hE⟩ := series_Exp_ev (p := tab n Lg) (UL_tab _ _) (by rw [tab_length]; omega) (n := n) (by omega) h0
  refine Ev.bind hE ?_
  simp -implicitDefEqProofs only [if_true]
  refine Ev.bind (abacistlaw30_cut_ev hp (n := n) (by omega) (by omega)) ?_
  have hd : ∀ i, i + 1 < n → der (co (tab n Lg)) i = der Lg i := fun i hi => by unfold der; rw [co_tab_lt hi]
  have e : tab n S = tab n (co p) := tab_congr (exp_only (A := der Lg) (by omega) (fun _ => by rw [hS.1, hp0]) (fun i hi => by
    rw [hS.2 i hi]
    exact cvl_upto (n := i + 1) (fun j hj => hd j (by omega)) (fun _ _ => rfl) (Nat.lt_succ_self i)) (fun i hi => hL i hi))
  rw [e]
  refine Ev.bind (Same_refl _ (by rw [tab_length]; omega)) ?_
  simp -implicitDefEqProofs only [if_true]
  exact h3
theorem logs_log {p : List Int} (hp : UL p) (hl : p.length ≤ 30) {n : Nat} (hn : n ≤ 20) {I Lg : Nat → F} (hI : ∀ i, i < n → cvl (co p) I i = pone i) (hL : ∀ i, i + 1 < n → der Lg i = cvl (der (co p)) I i) : ∀ i, i + 1 < n → der (co p) i = cvl (der Lg) (co p) i := fun i hi => by
  rw [cvl_upto (n := i + 1) (f := der Lg) (f' := cvl (der (co p)) I) (g := co p) (g' := co p) (fun j hj => hL j (by omega)) (fun _ _ => rfl) (Nat.lt_succ_self i), cvl_assoc,
    cvl_upto (n := i + 1) (f := der (co p)) (f' := der (co p)) (g := cvl I (co p)) (g' := pone) (fun _ _ => rfl) (fun j hj => by rw [cvl_comm]; exact hI j (by omega)) (Nat.lt_succ_self i), cvl_pone]
theorem logs_j1 {p q : List Int} (hp : UL p) (hl : p.length ≤ 30) {n : Nat} (hn : n ≤ 20) (hp0 : co p 0 = 1) {Lg : Nat → F} (hL0 : Lg 0 = 0) (hL : ∀ i, i + 1 < n → der (co p) i = cvl (der Lg) (co p) i) {x9 : List Int} {x10 : Int}
    (h3 : Ev (fun k => abacistlaw30_SeriesLogs.j3 k q (n : Int) x9 x10 ((n - 1 : Nat) : Int)) true) :
    Ev (fun k => abacistlaw30_SeriesLogs.j1 k p q (n : Int) (tab n Lg) 0 x9 x10 false) true := by
  refine Ev.step (fun k => abacistlaw30_SeriesLogs.j1.eq_2 ..) ?_
  have main : ∀ z : Bool → Nat → Option Bool, Ev (fun k => z false k) true → Ev (fun k => (abacistref07_Derive.f k (tab n Lg)).bind fun t398 => ((abacistref07_Mul.f k t398 p).bind fun t401 => ((abacistlaw30_cut.f k t401 ((n - 1 : Nat) : Int)).bind fun t404 => ((abacistlaw30_cut.f k p (n : Int)).bind fun t407 => ((abacistref07_Derive.f k t407).bind fun t410 => ((abacistlaw30_cut.f k t410 ((n - 1 : Nat) : Int)).bind fun t413 => ((abacistref04_Same.f k t404 t413).bind fun t416 => z (!t416) k))))))) true := by
    intro z hz
    refine Ev.bind (cut_der (by omega) Lg) ?_
    have l1 := tr_len_le (n - 1) (der (co (tab n Lg)))
    refine Ev.bind (abacistref07_Mul_ev (UL_tr _ _) hp (by omega)) ?_
    have l3 := tr_len_le ((tr (n - 1) (der (co (tab n Lg)))).length + p.length) (cvl (co (tr (n - 1) (der (co (tab n Lg))))) (co p))
    refine Ev.bind (abacistlaw30_cut_ev (UL_tr _ _) (n := n - 1) (by omega) (by omega)) ?_
    refine Ev.bind (abacistlaw30_cut_ev hp (n := n) (by omega) (by omega)) ?_
    refine Ev.bind (cut_der (by omega) (co p)) ?_
    have l2 := tr_len_le (n - 1) (der (co (tab n (co p))))
    refine Ev.bind (abacistlaw30_cut_ev (UL_tr _ _) (n := n - 1) (by omega) (by omega)) ?_
    have hm : co (tr ((tr (n - 1) (der (co (tab n Lg)))).length + p.length) (cvl (co (tr (n - 1) (der (co (tab n Lg))))) (co p))) = cvl (co (tr (n - 1) (der (co (tab n Lg))))) (co p) := (pmul_any _ _).co
    rw [hm]
    have e : tab (n - 1) (cvl (co (tr (n - 1) (der (co (tab n Lg))))) (co p)) = tab (n - 1) (co (tr (n - 1) (der (co (tab n (co p)))))) := tab_congr (fun i hi => by
      rw [co_cut_der (co p) i (by omega), hL i (by omega)]
      exact cvl_upto (n := i + 1) (fun j hj => co_cut_der Lg j (by omega)) (fun _ _ => rfl) (Nat.lt_succ_self i))
    rw [e]
    refine Ev.bind (Same_refl _ (by rw [tab_length]; omega)) ?_
    exact hz
  have m := main (fun b k => abacistlaw30_SeriesLogs.j2 k p q (n : Int) (tab n Lg) x9 x10 ((n - 1 : Nat) : Int) b) (logs_j2 hp hl hn hp0 hL0 hL h3)
  simp -implicitDefEqProofs only [Bool.false_eq_true, if_false, tab_length, if_true, mx_m (show n ≤ 1000 by omega)]
  by_cases c : (n : Int) > 0
  · have r0 : rd (tab n Lg) 0 = 0 := by
      rw [show rd (tab n Lg) 0 = un (Lg 0) from rd_tab (i := 0) (by omega), hL0, un_zero]
    simp -implicitDefEqProofs only [c, if_true, r0]
    exact m
  · simp -implicitDefEqProofs only [c, if_false]
    exact m
theorem logs_j1' {p q : List Int} {n : Nat} (hn : n ≤ 20) {x9 : List Int} {x10 : Int}
    (h3 : Ev (fun k => abacistlaw30_SeriesLogs.j3 k q (n : Int) x9 x10 ((n - 1 : Nat) : Int)) true) :
    Ev (fun k => abacistlaw30_SeriesLogs.j1 k p q (n : Int) [] 10 x9 x10 false) true := by
  refine Ev.step (fun k => abacistlaw30_SeriesLogs.j1.eq_2 ..) ?_
  simp -implicitDefEqProofs only [Bool.false_eq_true, if_false, show ¬ (10 : Int) = 0 by decide, mx_m (show n ≤ 1000 by omega)]
  exact h3
theorem logs_j3' {q : List Int} {n : Int} {x11 : Int} : Ev (fun k => abacistlaw30_SeriesLogs.j3 k q n [] 10 x11) true := by
  refine Ev.step (fun k => abacistlaw30_SeriesLogs.j3.eq_2 ..) ?_
  simp -implicitDefEqProofs only [show ¬ (10 : Int) = 0 by decide, if_false]
  exact Ev.now _
theorem SeriesLogs : abacistlaw30_SeriesLogs.Pure := by
  intro p q n _ _ hp _ _ hq _
  have hp := UL_of_wf hp
  have hq := UL_of_wf hq
  refine Ev.rounds ?_
  unfold abacistlaw30_SeriesLogs.f
  refine Ev.bind abacistlaw30_awake_ev ?_
  simp -implicitDefEqProofs only [if_true, abacistlaw30_most_eq, Option.bind_some]
  have arg : Ev (fun k => abacistlaw30_SeriesLogs.j0 k p q n true) true := by
    refine Ev.step (fun k => abacistlaw30_SeriesLogs.j0.eq_2 ..) ?_
    simp -implicitDefEqProofs only [if_true]
    exact Ev.now _
  by_cases c : p.length ≤ 30 ∧ q.length ≤ 30 ∧ (n ≤ 30 ∨ n > 65536)
  case neg =>
    simp -implicitDefEqProofs only [decide_eq_false c, Bool.false_eq_true, if_false]
    exact arg
  simp -implicitDefEqProofs only [decide_eq_true c, if_true]
  obtain ⟨hl, hl2, _⟩ := c
  by_cases c2 : n > 20
  · simp -implicitDefEqProofs only [decide_eq_true c2]
    exact arg
  simp -implicitDefEqProofs only [decide_eq_false c2]
  refine Ev.step (fun k => abacistlaw30_SeriesLogs.j0.eq_2 ..) ?_
  simp -implicitDefEqProofs only [Bool.false_eq_true, if_false]
  by_cases c1 : n < 0
  · refine Ev.bind (series_Log_arg (.inl c1)) ?_
    refine Ev.bind (series_Exp_arg (.inl c1)) ?_
    simp -implicitDefEqProofs only [c1, if_true]
    exact Ev.now _
  obtain ⟨m, rfl⟩ := Int.eq_ofNat_of_zero_le (show 0 ≤ n by omega)
  have hm : m ≤ 20 := by omega
  have b1 : ((10 : Int) == 0) = false := rfl
  have b0 : ((0 : Int) == 0) = true := rfl
  have l0 : ((([] : List Int).length : Nat) : Int) = 0 := rfl
  have n10 : ¬ (10 : Int) = 0 := by decide
  by_cases d1 : co p 0 = 1
  · obtain ⟨I, Lg, hI, hL0, hLd, hE⟩ := series_Log_ev hp (by omega) (n := m) (by omega) d1
    have hL := logs_log hp hl hm hI hLd
    have u1 : un (co p 0) = 1 := un_eq_1.2 d1
    refine Ev.bind hE ?_
    by_cases d2 : co q 0 = 0
    · obtain ⟨E, hX, hE2⟩ := series_Exp_ev hq (by omega) (n := m) (by omega) d2
      have u2 : un (co q 0) = 0 := un_eq_zero.2 d2
      refine Ev.bind hE2 ?_
      simp -implicitDefEqProofs only [c1, if_false, abacistlaw30_first_eq hp, abacistlaw30_first_eq hq, Option.bind_some, u1, u2, beq_self_eq_true, bne_self_eq_false, Bool.false_eq_true, if_true]
      exact logs_j1 hp hl hm d1 hL0 hL (logs_j3 hq hl2 hm hX d2)
    · have u2 : ¬ un (co q 0) = 0 := fun h => d2 (un_eq_zero.1 h)
      have u3 : (un (co q 0) == 0) = false := beq_eq_false_iff_ne.2 u2
      refine Ev.bind (series_Exp_form hq (by omega) (n := m) (by omega) d2) ?_
      simp -implicitDefEqProofs only [c1, if_false, abacistlaw30_first_eq hp, abacistlaw30_first_eq hq, Option.bind_some, u1, u3, b1, n10, l0, beq_self_eq_true, bne_self_eq_false, Bool.false_eq_true, if_true]
      exact logs_j1 hp hl hm d1 hL0 hL logs_j3'
  · have u1 : ¬ un (co p 0) = 1 := fun h => d1 (un_eq_1.1 h)
    have u4 : (un (co p 0) == 1) = false := beq_eq_false_iff_ne.2 u1
    refine Ev.bind (series_Log_form hp (by omega) (n := m) (by omega) d1) ?_
    by_cases d2 : co q 0 = 0
    · obtain ⟨E, hX, hE2⟩ := series_Exp_ev hq (by omega) (n := m) (by omega) d2
      have u2 : un (co q 0) = 0 := un_eq_zero.2 d2
      refine Ev.bind hE2 ?_
      simp -implicitDefEqProofs only [c1, if_false, abacistlaw30_first_eq hp, abacistlaw30_first_eq hq, Option.bind_some, u4, u2, b1, n10, l0, beq_self_eq_true, bne_self_eq_false, Bool.false_eq_true, if_true]
      exact logs_j1' hm (logs_j3 hq hl2 hm hX d2)
    · have u2 : ¬ un (co q 0) = 0 := fun h => d2 (un_eq_zero.1 h)
      have u3 : (un (co q 0) == 0) = false := beq_eq_false_iff_ne.2 u2
      refine Ev.bind (series_Exp_form hq (by omega) (n := m) (by omega) d2) ?_
      simp -implicitDefEqProofs only [c1, if_false, abacistlaw30_first_eq hp, abacistlaw30_first_eq hq, Option.bind_some, u4, u3, b1, n10, l0, beq_self_eq_true, bne_self_eq_false, Bool.false_eq_true, if_true]
      exact logs_j1' hm logs_j3'
end Go.Proofs.Ytnmjomcpkckihaa.Pure
