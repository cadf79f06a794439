/- TreeShifts: for any row of 64-bit words and any two words a, x the law's call answers true: a polynomial of at most 30 words, shifted by a, has at x the polynomial's value at x and a together, shifted back it is the polynomial again, and the degree stays. Conditions: the row reads as a row. -/
import Derived.Test.YtkgakohgbbapaaaBTreeShifts
namespace Go.Proofs.Ytkgakohgbbapaaa.Pure
set_option linter.unusedVariables false
set_option linter.unusedSimpArgs false
open Go Go.RowKit Go.Proofs.Ytkgakohgbbapaaa.M Go.Proofs.Ytkgakohgbbapaaa.BTreeShifts Go.Proofs.Ytkgakohgbbapaaa.PTreeShifts Go.Proofs.YtkgakohgbbapaaaW.PrintWords Go.Proofs.YtkgakohgbbapaaaW.PrintLast Go.Proofs.YtkgakohgbbapaaaW.PrintMore
theorem poly_unique {n : Nat} {f g : Nat → F} (hf : ∀ i, n ≤ i → f i = 0) (hg : ∀ i, n ≤ i → g i = 0) (hn : n ≤ 1000) (h : ∀ x, ev n f x = ev n g x) (i : Nat) : f i = g i := by
  by_cases c : i < n
  · have h1 := roots_zero n (fun i => f i - g i) (fun i => cv (i : Int)) (fun i j hi hj hne he => hne (by have := cv_eq_iff.1 he; omega)) (fun i _ => by rw [ev_sub, h]; grind) i c
    have h2 : f i - g i = 0 := h1
    grind
  · rw [hf i (by omega), hg i (by omega)]
theorem sf_ev (n : Nat) (f : Nat → F) (a x : F) : ev n (sf n f a n) x = ev n f (x + a) := by
  rw [ev_sf n f a x n (Nat.le_refl _), Nat.sub_self, hn_zero]
theorem dg_top {n d : Nat} {f : Nat → F} (h : ∀ i, d ≤ i → f i = 0) : dg n f ≤ d := by
  rcases Nat.lt_or_ge d (dg n f) with c | c
  · exact absurd (h (dg n f - 1) (by omega)) (dg_last (by omega))
  · exact c
theorem TreeShifts : abacistlaw33_TreeShifts.Pure := by
  intro p a x _ _ hp ha hx
  have hp := UL_of_wf hp
  have ha := U_of_wf ha
  have hx := U_of_wf hx
  refine Ev.rounds (g := fun k => abacistlaw33_TreeShifts.f k p a x) ?_
  unfold abacistlaw33_TreeShifts.f
  refine Ev.bind abacistlaw33_awake_ev ?_
  simp -implicitDefEqProofs only [if_true]
  by_cases c : (p.length : Int) > 30
  · simp -implicitDefEqProofs only [if_pos c]; exact Ev.now _
  · simp -implicitDefEqProofs only [if_neg c]
    refine Ev.bind (tree_Shift_ev hp (by omega) ha) ?_
    simp -implicitDefEqProofs only [abacistref02_Sub_eq (show (0 : Int) ≤ 0 by decide) ha.1, Option.bind_some]
    have op := row_out p
    generalize hS : sf p.length (co p) (cv a) p.length = S
    have oS : ∀ i, p.length ≤ i → S i = 0 := by rw [← hS]; exact sf_out _ _ _ _
    have eS : ∀ y, ev p.length S y = ev p.length (co p) (y + cv a) := fun y => by rw [← hS]; exact sf_ev _ _ _ _
    have lq := tr_len_le p.length S
    have cq : co (tr p.length S) = S := co_trF oS
    refine Ev.bind (tree_Shift_ev (UL_tr _ _) (by omega) (U_un _)) ?_
    simp -implicitDefEqProofs only [if_true]
    refine Ev.bind (abacistref07_At_ev (UL_tr _ _) (by omega) hx) ?_
    simp -implicitDefEqProofs only [abacistref02_Add_eq hx.1 ha.1, Option.bind_some]
    refine Ev.bind (abacistref07_At_ev hp (by omega) (U_un _)) ?_
    have e1 : ev (tr p.length S).length (co (tr p.length S)) (cv x) = ev p.length (co p) (cv (un (cv x + cv a))) := by rw [ev_tr, eS, cv_un]
    rw [e1]
    simp -implicitDefEqProofs only [if_true]
    refine Ev.bind (abacistref07_Trim_ev hp (by omega)) ?_
    rw [cq]
    generalize hq : (tr p.length S).length = m at lq
    have hm : m = dg p.length S := by rw [← hq, tr_length]
    have eT : ∀ y, ev m (sf m S (cv (un (cv 0 - cv a))) m) y = ev p.length (co p) y := fun y => by
      rw [sf_ev, cv_un, cv_zero]
      have h1 : ev m S (y + (0 - cv a)) = ev p.length S (y + (0 - cv a)) := (ev_ext _ lq (fun i h1 h2 => dg_out (by omega) h2)).symm
      rw [h1, eS]
      congr 1
      grind
    have oT := sf_out m S (cv (un (cv 0 - cv a))) m
    have hT : ∀ i, sf m S (cv (un (cv 0 - cv a))) m i = co p i := poly_unique (n := p.length) (fun i hi => oT i (by omega)) op (by omega) (fun y => by
      rw [ev_ext y lq (fun i h1 _ => oT i h1), eT])
    rw [tr_eq (n := m) (m := p.length) hT oT op]
    refine Ev.bind (abacistref04_Same_refl _ (by have := tr_len_le p.length (co p); omega)) ?_
    simp -implicitDefEqProofs only [if_true]
    refine Ev.bind (abacistref07_Trim_ev hp (by omega)) ?_
    have d1 : dg p.length (co p) ≤ m := dg_top (fun i hi => by rw [← hT i]; exact oT i hi)
    have d2 : m ≤ dg p.length (co p) := by
      rw [hm]
      have o2 : ∀ i, dg p.length (co p) ≤ i → co p i = 0 := fun i hi => by
        by_cases c2 : i < p.length
        · exact dg_out hi c2
        · exact op i (by omega)
      have l2 := dg_le p.length (co p)
      generalize dg p.length (co p) = d at o2 l2
      have o3 := sf_out d (co p) (cv a) d
      have h3 : ∀ i, S i = sf d (co p) (cv a) d i := poly_unique (n := p.length) oS (fun i hi => o3 i (by omega)) (by omega) (fun y => by
        rw [eS, ev_ext y l2 (fun i h1 _ => o3 i h1), sf_ev, ev_ext _ l2 (fun i h1 _ => o2 i h1)])
      exact dg_top (fun i hi => by rw [h3]; exact o3 i hi)
    rw [tr_length, show m = dg p.length (co p) by omega, beq_self_eq_true]
    exact Ev.now _
end Go.Proofs.Ytkgakohgbbapaaa.Pure
