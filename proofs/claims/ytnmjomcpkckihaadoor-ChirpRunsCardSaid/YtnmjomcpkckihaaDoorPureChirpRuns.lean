/- ChirpRuns: for any row of 64-bit words and any number the law's call answers true: of a row of at most 60 words, of a length that goes, chirp.Slow, chirp.Chirp and chirp.Mixed each give the defining sum, and the inverse one of the forward one is the row; what does not go is refused by name. Conditions: the row reads as a row; math/bits' table and chirp's primes are as they were laid. -/
import Derived.Test.YtnmjomcpkckihaaDoorBChirpRuns
namespace Go.Proofs.YtnmjomcpkckihaaDoor.Pure
set_option linter.unusedVariables false
set_option linter.unusedSimpArgs false
open Go Go.RowKit Go.Proofs.YtnmjomcpkckihaaDoor.M Go.Proofs.YtnmjomcpkckihaaDoor.BChirpRuns Go.Proofs.YtnmjomcpkckihaaDoor.PChirpRuns Go.Proofs.YtnmjomcpkckihaaDoorW.PrintWords Go.Proofs.YtnmjomcpkckihaaDoorW.PrintLast Go.Proofs.YtnmjomcpkckihaaDoorW.PrintMore
theorem runs_bad {l : List Int} {d want : Int} (hw : want ≠ 0) : Ev (fun k => abacistlaw29_ChirpRuns.j0 k l d [] want [] want [] want want) true := by
  refine Ev.step (fun k => abacistlaw29_ChirpRuns.j0.eq_2 ..) ?_
  simp -implicitDefEqProofs only [hw, if_false, if_true, List.length_nil, show ((0 : Nat) : Int) = 0 from rfl, show ((0 : Int) == 0) = true from rfl]
  exact Ev.now _
theorem runs_good {l : List Int} (hl : UL l) (h : 1 ≤ l.length ∧ l.length ≤ 65536 ∧ 18446744069414584320 % l.length = 0) {d : Int} (hd : d = 0 ∨ d = 1) : Ev (fun k => abacistlaw29_ChirpRuns.j0 k l d (tab l.length (tfn l.length d (co l))) 0 (tab l.length (tfn l.length d (co l))) 0 (tab l.length (tfn l.length d (co l))) 0 0) true := by
  obtain ⟨n, hn⟩ : ∃ n, n = l.length := ⟨_, rfl⟩
  have hd2 : (1 - d = 0) ∨ (1 - d = 1) := by omega
  have hlt : (tab n (tfn n d (co l))).length = n := tab_length _ _
  refine Ev.step (fun k => abacistlaw29_ChirpRuns.j0.eq_2 ..) ?_
  simp -implicitDefEqProofs only [if_true]
  refine Ev.bind (abacistref29_Transform_ev hl h hd) ?_
  rw [← hn] at h ⊢
  rw [wrap64_of (a := 1 - d) (by omega) (by omega)]
  refine Ev.bind (chirp_Mixed_ev (l := tab n (tfn n d (co l))) (UL_tab _ _) (by rw [hlt]; exact h) hd2) ?_
  rw [hlt]
  have eb : tab n (tfn n (1 - d) (co (tab n (tfn n d (co l))))) = tab n (co l) := tab_congr (fun i hi => by
    rw [tfn_congr (g := tfn n d (co l)) (fun j hj => co_tab_lt hj)]
    exact tfn_tfn h hd (co l) hi)
  rw [eb]
  simp -implicitDefEqProofs only [if_true]
  refine Ev.bind (abacistref04_Same_refl _ (by rw [tab_length]; omega)) ?_
  simp -implicitDefEqProofs only [if_true]
  refine Ev.bind (abacistref04_Same_refl _ (by rw [tab_length]; omega)) ?_
  simp -implicitDefEqProofs only [if_true]
  refine Ev.bind (abacistref04_Same_refl _ (by rw [tab_length]; omega)) ?_
  simp -implicitDefEqProofs only [if_true]
  refine Ev.bind (abacistref08_Canon_ev hl (by omega)) ?_
  rw [← hn]
  refine Ev.bind (abacistref04_Same_refl _ (by rw [tab_length]; omega)) ?_
  exact Ev.now _
theorem ChirpRuns : abacistlaw29_ChirpRuns.Pure := by
  intro l d _ _ hl hd
  have hl := UL_of_wf hl
  have hd := i64_of_wf hd
  refine Ev.rounds ?_
  unfold abacistlaw29_ChirpRuns.f
  refine Ev.bind abacistlaw29_awake_ev ?_
  simp -implicitDefEqProofs only [if_true]
  by_cases c1 : (l.length : Int) > 60
  · simp -implicitDefEqProofs only [c1, if_true]
    exact Ev.now _
  simp -implicitDefEqProofs only [c1, if_false]
  by_cases c2 : 1 ≤ l.length ∧ l.length ≤ 65536 ∧ 18446744069414584320 % l.length = 0
  · have eg : abacistref29_Goes.f (l.length : Int) = some true := by rw [abacistref29_Goes_eq, decide_eq_true ((goes_nat _).2 c2)]
    by_cases c3 : d = 0 ∨ d = 1
    · refine Ev.bind (chirp_Slow_ev hl c2 (by omega) c3) ?_
      refine Ev.bind (chirp_Chirp_ev hl c2 c3) ?_
      refine Ev.bind (chirp_Mixed_ev hl c2 c3) ?_
      rw [eg]
      simp -implicitDefEqProofs only [Option.bind_some, if_true]
      have key := runs_good hl c2 c3
      rcases c3 with rfl | rfl
      · simp -implicitDefEqProofs only [if_true]
        exact key
      · simp -implicitDefEqProofs only [show ¬ (1 : Int) = 0 by decide, if_false, if_true]
        exact key
    · have c4 : d < 0 ∨ 1 < d := by omega
      refine Ev.bind (chirp_Slow_kind c2 c4) ?_
      refine Ev.bind (chirp_Chirp_kind c2 c4) ?_
      refine Ev.bind (chirp_Mixed_kind c2 c4) ?_
      rw [eg]
      simp -implicitDefEqProofs only [Option.bind_some, if_true, show ¬ d = 0 by omega, show ¬ d = 1 by omega, if_false]
      exact runs_bad (by decide)
  · have eg : abacistref29_Goes.f (l.length : Int) = some false := by rw [abacistref29_Goes_eq, decide_eq_false (fun h => c2 ((goes_nat _).1 h))]
    refine Ev.bind (chirp_Slow_len c2) ?_
    refine Ev.bind (chirp_Chirp_len c2) ?_
    refine Ev.bind (chirp_Mixed_len c2) ?_
    rw [eg]
    simp -implicitDefEqProofs only [Option.bind_some, Bool.false_eq_true, if_false]
    exact runs_bad (by decide)
end Go.Proofs.YtnmjomcpkckihaaDoor.Pure
