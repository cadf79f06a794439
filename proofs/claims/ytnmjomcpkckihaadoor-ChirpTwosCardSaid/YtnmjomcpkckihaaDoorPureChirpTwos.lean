/- ChirpTwos: for any row of 64-bit words and any number the law's call answers true: of a row of at most 64 words whose length is a power of two, chirp.Chirp and chirp.Mixed give the transform of powers of two. Conditions: the row reads as a row; math/bits' table and chirp's primes are as they were laid. -/
import Derived.Test.YtnmjomcpkckihaaDoorBChirpTwos
namespace Go.Proofs.YtnmjomcpkckihaaDoor.Pure
set_option linter.unusedVariables false
set_option linter.unusedSimpArgs false
open Go Go.RowKit Go.Proofs.YtnmjomcpkckihaaDoor.M Go.Proofs.YtnmjomcpkckihaaDoor.BChirpTwos Go.Proofs.YtnmjomcpkckihaaDoor.PChirpTwos Go.Proofs.YtnmjomcpkckihaaDoorW.PrintWords Go.Proofs.YtnmjomcpkckihaaDoorW.PrintLast Go.Proofs.YtnmjomcpkckihaaDoorW.PrintMore
theorem twos_out {l : List Int} {d x : Int} : Ev (fun k => abacistlaw29_ChirpTwos.j0 k l d x true) true := by
  refine Ev.step (fun k => abacistlaw29_ChirpTwos.j0.eq_2 ..) ?_
  simp -implicitDefEqProofs only [if_true]
  exact Ev.now _
theorem two_goes : ∀ j, j ≤ 6 → 18446744069414584320 % 2 ^ j = 0 := by decide
theorem twos_good {l : List Int} (hl : UL l) {j : Nat} (hj : j ≤ 6) (hlen : l.length = 2 ^ j) {d : Int} (hd : d = 0 ∨ d = 1) : Ev (fun k => abacistlaw29_ChirpTwos.j0 k l d (j : Int) false) true := by
  have hp := two_pow_lt hj
  have h1 := Nat.two_pow_pos j
  have hg : 1 ≤ l.length ∧ l.length ≤ 65536 ∧ 18446744069414584320 % l.length = 0 := by rw [hlen]; exact ⟨by omega, by omega, two_goes j hj⟩
  have e : tab l.length (tfn l.length d (co l)) = tab (2 ^ j) (tf j d (co l)) := by
    rw [hlen]
    exact tab_congr (fun i _ => tfn_two hd _ _)
  refine Ev.step (fun k => abacistlaw29_ChirpTwos.j0.eq_2 ..) ?_
  simp -implicitDefEqProofs only [Bool.false_eq_true, if_false]
  refine Ev.bind (chirp_Chirp_ev hl hg hd) ?_
  refine Ev.bind (chirp_Mixed_ev hl hg hd) ?_
  refine Ev.bind (abacistref08_Transform_ev hl (by omega) hd hlen) ?_
  rw [e]
  simp -implicitDefEqProofs only [if_true]
  refine Ev.bind (abacistref04_Same_refl _ (by rw [tab_length]; omega)) ?_
  simp -implicitDefEqProofs only [if_true]
  refine Ev.bind (abacistref04_Same_refl _ (by rw [tab_length]; omega)) ?_
  exact Ev.now _
theorem ChirpTwos : abacistlaw29_ChirpTwos.Pure := by
  intro l d _ _ hl hd
  have hl := UL_of_wf hl
  refine Ev.rounds ?_
  unfold abacistlaw29_ChirpTwos.f
  refine Ev.bind abacistlaw29_awake_ev ?_
  simp -implicitDefEqProofs only [if_true]
  by_cases c0 : ∃ j : Nat, j ≤ 32 ∧ (l.length : Int) = ((2 ^ j : Nat) : Int)
  · obtain ⟨j, hj, e⟩ := c0
    have hF := abacistref03_Fits_yes hj
    rw [← e] at hF
    refine Ev.bind hF ?_
    by_cases c1 : (l.length : Int) > 64
    · simp -implicitDefEqProofs only [c1, if_true]
      exact twos_out
    simp -implicitDefEqProofs only [c1, if_false, show ¬ (j : Int) < 0 by omega]
    have hj6 : j ≤ 6 := by
      rcases Nat.lt_or_ge 6 j with d | d
      · have := two_pow_lt (n := 7) (m := j) d
        omega
      · exact d
    have hlen : l.length = 2 ^ j := by omega
    by_cases c2 : d = 0
    · simp -implicitDefEqProofs only [c2, if_true]
      exact twos_good hl hj6 hlen (.inl rfl)
    · by_cases c3 : d = 1
      · subst c3
        simp -implicitDefEqProofs only [c2, if_false, show ((1 : Int) != 1) = false from rfl]
        exact twos_good hl hj6 hlen (.inr rfl)
      · simp -implicitDefEqProofs only [c2, if_false, show (d != 1) = true from bne_iff_ne.2 c3]
        exact twos_out
  · refine Ev.bind (abacistref03_Fits_no (fun j hj e => c0 ⟨j, hj, e⟩)) ?_
    by_cases c1 : (l.length : Int) > 64
    · simp -implicitDefEqProofs only [c1, if_true]
      exact twos_out
    · simp -implicitDefEqProofs only [c1, if_false, show (-1 : Int) < 0 by decide, if_true]
      exact twos_out
end Go.Proofs.YtnmjomcpkckihaaDoor.Pure
