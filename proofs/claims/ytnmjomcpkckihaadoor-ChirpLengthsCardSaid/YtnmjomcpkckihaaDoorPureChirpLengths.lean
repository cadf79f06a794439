/- ChirpLengths: for any two numbers the law's call answers true: which lengths go, their prime factors, their roots and the next one that goes are as the document says. Conditions: math/bits' table and chirp's primes are as they were laid. -/
import Derived.Test.YtnmjomcpkckihaaDoorBChirpLengths
namespace Go.Proofs.YtnmjomcpkckihaaDoor.Pure
set_option linter.unusedVariables false
set_option linter.unusedSimpArgs false
open Go Go.RowKit Go.Proofs.YtnmjomcpkckihaaDoor.M Go.Proofs.YtnmjomcpkckihaaDoor.BChirpLengths Go.Proofs.YtnmjomcpkckihaaDoor.PChirpLengths Go.Proofs.YtnmjomcpkckihaaDoorW.PrintWords Go.Proofs.YtnmjomcpkckihaaDoorW.PrintLast Go.Proofs.YtnmjomcpkckihaaDoorW.PrintMore
theorem primes_in {fs : List Nat} (h : isPrimes fs) {i : Nat} (hi : i < fs.length) : fs.getD i 0 = 2 ∨ fs.getD i 0 = 3 ∨ fs.getD i 0 = 5 ∨ fs.getD i 0 = 17 ∨ fs.getD i 0 = 257 := by
  have hm : fs.getD i 0 ∈ fs := by rw [List.getD_eq_getElem?_getD, List.getElem?_eq_getElem hi]; exact List.getElem_mem hi
  obtain ⟨a, b, c, d, e, rfl⟩ := h
  simp only [List.mem_append, List.mem_replicate] at hm
  omega
theorem primes_sorted {fs : List Nat} (h : isPrimes fs) : fs.Pairwise (· ≤ ·) := by
  obtain ⟨a, b, c, d, e, rfl⟩ := h
  simp only [List.pairwise_append, List.pairwise_replicate, List.mem_append, List.mem_replicate]
  refine ⟨⟨⟨⟨.inr (Nat.le_refl _), .inr (Nat.le_refl _), ?_⟩, .inr (Nat.le_refl _), ?_⟩, .inr (Nat.le_refl _), ?_⟩, .inr (Nat.le_refl _), ?_⟩ <;> (intro x hx y hy; omega)
theorem primes_step {fs : List Nat} (h : isPrimes fs) {i : Nat} (hi : i + 1 < fs.length) : fs.getD i 0 ≤ fs.getD (i + 1) 0 := by
  have hs := List.pairwise_iff_getElem.1 (primes_sorted h) i (i + 1) (by omega) hi (by omega)
  rw [List.getD_eq_getElem?_getD, List.getD_eq_getElem?_getD, List.getElem?_eq_getElem hi, List.getElem?_eq_getElem (show i < fs.length by omega)]
  exact hs
theorem rd_ints (fs : List Nat) (i : Nat) : rd (ints fs) (i : Int) = ((fs.getD i 0 : Nat) : Int) := by
  rw [rd_nat]
  unfold ints
  rw [List.getD_eq_getElem?_getD, List.getD_eq_getElem?_getD, List.getElem?_map]
  cases fs[i]? <;> rfl
theorem pro_pos {fs : List Nat} (h : ∀ p ∈ fs, 0 < p) : 0 < pro fs := by
  induction fs with
  | nil => exact Nat.one_pos
  | cons p t ih => exact Nat.mul_pos (h p List.mem_cons_self) (ih (fun q hq => h q (List.mem_cons_of_mem p hq)))
theorem pro_take {fs : List Nat} (h : ∀ p ∈ fs, 0 < p) (i : Nat) : pro (fs.take i) ≤ pro fs := by
  have e : pro fs = pro (fs.take i) * pro (fs.drop i) := by rw [← pro_append, List.take_append_drop]
  rw [e]
  exact Nat.le_mul_of_pos_right _ (pro_pos (fun p hp => h p (List.mem_of_mem_drop hp)))
theorem pro_take_succ {fs : List Nat} {i : Nat} (hi : i < fs.length) : pro (fs.take (i + 1)) = pro (fs.take i) * fs.getD i 0 := by
  rw [List.take_add_one, pro_append, List.getD_eq_getElem?_getD, List.getElem?_eq_getElem hi]
  show _ * (fs[i] * 1) = _ * fs[i]
  rw [Nat.mul_one]
theorem lengths_l1 {n : Nat} (h : 1 ≤ n ∧ n ≤ 65536 ∧ 18446744069414584320 % n = 0) {d w e : Int} (hd : (d = 0 ∨ d = 1) ∧ w = un (rz n d) ∧ e = 0 ∨ (d < 0 ∨ 1 < d) ∧ w = 0 ∧ e = 18) {fs : List Nat} (hp : isPrimes fs) (hn : pro fs = n) (hl : fs.length ≤ 16) :
    Ev (fun k => abacistlaw29_ChirpLengths.l1 k (n : Int) d (ints fs) w e 1 0) true := by
  have hpos := isPrimes_pos hp
  refine Ev_loop fs.length (fun k i => abacistlaw29_ChirpLengths.l1 k (n : Int) d (ints fs) w e ((pro (fs.take i) : Nat) : Int) (i : Int)) ?_ (fun i hi ih => ?_) 0 (Nat.zero_le _)
  · refine Ev.step (fun k => abacistlaw29_ChirpLengths.l1.eq_2 ..) ?_
    rw [List.take_length, hn]
    simp -implicitDefEqProofs only [ints_length, Int.lt_irrefl, if_false, if_true]
    rcases hd with ⟨hd, rfl, rfl⟩ | ⟨hd, rfl, rfl⟩
    · have hR := abacistref29_Root_ev h hd
      rcases hd with rfl | rfl
      · simp -implicitDefEqProofs only [if_true]
        refine Ev.bind hR ?_
        rw [beq_self_eq_true]
        exact Ev.now _
      · simp -implicitDefEqProofs only [show ¬ (1 : Int) = 0 by decide, if_false, if_true]
        refine Ev.bind hR ?_
        rw [beq_self_eq_true]
        exact Ev.now _
    · simp -implicitDefEqProofs only [show ¬ d = 0 by omega, show ¬ d = 1 by omega, if_false, if_true, beq_self_eq_true]
      exact Ev.now _
  · have e1 := pro_take_succ hi
    have hle := pro_take hpos (i + 1)
    have ew : wrap64 ((pro (fs.take i) : Nat) * ((fs.getD i 0 : Nat) : Int)) = ((pro (fs.take (i + 1)) : Nat) : Int) := by
      rw [show ((pro (fs.take i) : Nat) : Int) * ((fs.getD i 0 : Nat) : Int) = ((pro (fs.take (i + 1)) : Nat) : Int) by rw [e1]; exact (Int.natCast_mul _ _).symm]
      exact wrap64_of (by omega) (by omega)
    refine Ev.step (fun k => abacistlaw29_ChirpLengths.l1.eq_2 ..) ?_
    have rest : Ev (fun k => if (i : Int) > 0 then (if 0 ≤ (wrap64 ((i : Int) - 1)) then (if (wrap64 ((i : Int) - 1)) < ((ints fs).length : Int) then (if (rd (ints fs) (i : Int)) < (rd (ints fs) (wrap64 ((i : Int) - 1))) then (some false) else (abacistlaw29_ChirpLengths.l1 k (n : Int) d (ints fs) w e (wrap64 (((pro (fs.take i) : Nat) : Int) * (rd (ints fs) (i : Int)))) (wrap64 ((i : Int) + 1)))) else (none)) else (none)) else (abacistlaw29_ChirpLengths.l1 k (n : Int) d (ints fs) w e (wrap64 (((pro (fs.take i) : Nat) : Int) * (rd (ints fs) (i : Int)))) (wrap64 ((i : Int) + 1)))) true := by
      rw [nat64_succ (show i < 9223372036854775807 by omega), rd_ints, ew]
      by_cases c : i = 0
      · simp -implicitDefEqProofs only [show ¬ (i : Int) > 0 by omega, if_false]
        exact ih
      · obtain ⟨j, rfl⟩ : ∃ j, i = j + 1 := ⟨i - 1, by omega⟩
        have ej : wrap64 (((j + 1 : Nat) : Int) - 1) = (j : Int) := nat64_pred (by omega)
        have hle2 := primes_step hp hi
        simp -implicitDefEqProofs only [ej, show ((j + 1 : Nat) : Int) > 0 by omega, if_true, show (0 : Int) ≤ (j : Int) by omega, ints_length, show (j : Int) < (fs.length : Int) by omega, rd_ints, show ¬ ((fs.getD (j + 1) 0 : Nat) : Int) < ((fs.getD j 0 : Nat) : Int) by omega, if_false]
        exact ih
    obtain ⟨v, hv⟩ : ∃ v, v = rd (ints fs) (i : Int) := ⟨_, rfl⟩
    have hm := primes_in hp hi
    rw [← hv] at rest
    simp -implicitDefEqProofs only [← hv, ints_length, show (i : Int) < (fs.length : Int) by omega, if_true, show (0 : Int) ≤ (i : Int) by omega]
    rw [ints_length] at rest
    rw [rd_ints] at hv
    rcases hm with hm | hm | hm | hm | hm <;> rw [hm] at hv <;> subst hv
    · simp -implicitDefEqProofs only [show ((2 : Nat) : Int) = 2 from rfl, if_true] at rest ⊢
      exact rest
    · simp -implicitDefEqProofs only [show ((3 : Nat) : Int) = 3 from rfl, show ¬ (3 : Int) = 2 by decide, if_false, if_true] at rest ⊢
      exact rest
    · simp -implicitDefEqProofs only [show ((5 : Nat) : Int) = 5 from rfl, show ¬ (5 : Int) = 2 by decide, show ¬ (5 : Int) = 3 by decide, if_false, if_true] at rest ⊢
      exact rest
    · simp -implicitDefEqProofs only [show ((17 : Nat) : Int) = 17 from rfl, show ¬ (17 : Int) = 2 by decide, show ¬ (17 : Int) = 3 by decide, show ¬ (17 : Int) = 5 by decide, if_false, if_true] at rest ⊢
      exact rest
    · simp -implicitDefEqProofs only [show ((257 : Nat) : Int) = 257 from rfl, show ¬ (257 : Int) = 2 by decide, show ¬ (257 : Int) = 3 by decide, show ¬ (257 : Int) = 5 by decide, show ¬ (257 : Int) = 17 by decide, if_false, if_true] at rest ⊢
      exact rest
theorem ChirpLengths : abacistlaw29_ChirpLengths.Pure := by
  intro n d hn hd
  have hn := i64_of_wf hn
  have hd := i64_of_wf hd
  refine Ev.rounds ?_
  unfold abacistlaw29_ChirpLengths.f
  refine Ev.bind abacistlaw29_awake_ev ?_
  simp -implicitDefEqProofs only [if_true, abacistref29_Goes_eq, chirp_Goes_eq, Option.bind_some, bne_self_eq_false, Bool.false_eq_true, if_false]
  by_cases g : 1 ≤ n ∧ n ≤ 65536 ∧ (18446744069414584320 : Int) % n = 0
  · rw [decide_eq_true g]
    obtain ⟨m, rfl⟩ := Int.eq_ofNat_of_zero_le (show 0 ≤ n by omega)
    have hg := (goes_nat m).1 g
    obtain ⟨fs, f1, f2, f3, fE⟩ := chirp_Factors_ev hg
    refine Ev.bind fE ?_
    obtain ⟨w, e, hwe, hR⟩ : ∃ w e, ((d = 0 ∨ d = 1) ∧ w = un (rz m d) ∧ e = 0 ∨ (d < 0 ∨ 1 < d) ∧ w = 0 ∧ e = 18) ∧ Ev (fun k => chirp_Root.f k (m : Int) d) (w, e) := by
      by_cases c : d = 0 ∨ d = 1
      · refine ⟨_, _, .inl ⟨c, rfl, rfl⟩, ?_⟩
        rw [← rtd_rz]
        exact chirp_Root_ev hg c
      · exact ⟨_, _, .inr ⟨by omega, rfl, rfl⟩, chirp_Root_kind g (by omega)⟩
    refine Ev.bind hR ?_
    have hN : Ev (fun k => chirp_Next.f k (m : Int)) ((m : Int), true) := by
      unfold chirp_Next.f
      have em : mx (m : Int) 1 = (m : Int) := by unfold mx; split <;> omega
      rw [em]
      refine Ev.step (fun k => chirp_Next.l0.eq_2 ..) ?_
      have eg : chirp_Goes.f (m : Int) = some true := by rw [chirp_Goes_eq, decide_eq_true g]
      simp -implicitDefEqProofs only [eg, show (m : Int) ≤ 65536 from g.2.1, if_true, Option.bind_some]
      exact Ev.now _
    refine Ev.bind hN ?_
    simp -implicitDefEqProofs only [decide_eq_true g.2.1, bne_self_eq_false, Bool.false_eq_true, if_false, if_true, Int.lt_irrefl, decide_eq_true g]
    refine Ev.step (fun k => abacistlaw29_ChirpLengths.j0.eq_2 ..) ?_
    simp -implicitDefEqProofs only [Bool.false_eq_true, if_false]
    refine Ev.step (fun k => abacistlaw29_ChirpLengths.l0.eq_2 ..) ?_
    have em : mx (m : Int) 1 = (m : Int) := by unfold mx; split <;> omega
    simp -implicitDefEqProofs only [em, Int.lt_irrefl, if_false, if_true]
    exact lengths_l1 hg hwe f1 f2 f3
  · rw [decide_eq_false g]
    refine Ev.bind (chirp_Factors_no g) ?_
    refine Ev.bind (chirp_Root_len g) ?_
    have last : ∀ (x m : Int), ¬ x < m → Ev (fun k => abacistlaw29_ChirpLengths.l0 k n d false [] 0 4 m x) true := fun x m h => by
      refine Ev.step (fun k => abacistlaw29_ChirpLengths.l0.eq_2 ..) ?_
      simp -implicitDefEqProofs only [h, if_false, Bool.false_eq_true, List.length_nil, show ((0 : Nat) : Int) = 0 from rfl, if_true, beq_self_eq_true]
      exact Ev.now _
    by_cases c : n ≤ 65536
    · obtain ⟨s, m, hs, s1, s2, m1, m2, m3, hN⟩ := chirp_Next_ev c
      refine Ev.bind hN ?_
      have hsn : n ≤ (s : Int) := by unfold mx at hs; split at hs <;> omega
      simp -implicitDefEqProofs only [decide_eq_true c, bne_self_eq_false, Bool.false_eq_true, if_false, if_true, show ¬ (m : Int) < n by omega, decide_eq_true ((goes_nat m).2 ⟨by omega, m1, m2⟩)]
      refine Ev.step (fun k => abacistlaw29_ChirpLengths.j0.eq_2 ..) ?_
      simp -implicitDefEqProofs only [Bool.false_eq_true, if_false, hs]
      have key : ∀ (q i : Nat), i + q = m → s ≤ i → Ev (fun k => abacistlaw29_ChirpLengths.l0 k n d false [] 0 4 (m : Int) (i : Int)) true := by
        intro q
        induction q with
        | zero =>
          intro i hi _
          obtain rfl : i = m := by omega
          exact last _ _ (Int.lt_irrefl _)
        | succ q ih =>
          intro i hi hsi
          refine Ev.step (fun k => abacistlaw29_ChirpLengths.l0.eq_2 ..) ?_
          simp -implicitDefEqProofs only [show (i : Int) < (m : Int) by omega, if_true, abacistref29_Goes_eq, decide_eq_false (fun h => m3 i hsi (by omega) ((goes_nat i).1 h).2.2), Option.bind_some, Bool.false_eq_true, if_false, nat64_succ (show i < 9223372036854775807 by omega)]
          exact ih (i + 1) (by omega) (by omega)
      exact key (m - s) s (by omega) (Nat.le_refl _)
    · refine Ev.bind (chirp_Next_far (by omega)) ?_
      simp -implicitDefEqProofs only [decide_eq_false c, bne_self_eq_false, Bool.false_eq_true, if_false]
      refine Ev.step (fun k => abacistlaw29_ChirpLengths.j0.eq_2 ..) ?_
      simp -implicitDefEqProofs only [Bool.false_eq_true, if_false]
      exact last _ _ (by unfold mx; split <;> omega)
end Go.Proofs.YtnmjomcpkckihaaDoor.Pure
