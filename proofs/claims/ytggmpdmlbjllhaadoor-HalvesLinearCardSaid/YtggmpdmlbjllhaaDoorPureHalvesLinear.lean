/- HalvesLinear: for any two rows of 64-bit words, any word and any number for a direction the law's call answers true: of rows of 2^k words, at most 64, the transform of a + c b is, word by word in the field, the transform of a and c times that of b; that of a turned by one place is word by word a's times powers of the root. Conditions: the rows read as such; math/bits' listed table reads as the row says. -/
import Derived.Test.YtggmpdmlbjllhaaDoorBHalvesLinear
namespace Go.Proofs.YtggmpdmlbjllhaaDoor.Pure
set_option linter.unusedVariables false
set_option linter.unusedSimpArgs false
open Go Go.RowKit Go.Proofs.YtggmpdmlbjllhaaDoor.M Go.Proofs.YtggmpdmlbjllhaaDoor.BHalvesLinear Go.Proofs.YtggmpdmlbjllhaaDoor.PHalvesLinear Go.Proofs.YtggmpdmlbjllhaaDoorW.PrintWords Go.Proofs.YtggmpdmlbjllhaaDoorW.PrintLast Go.Proofs.YtggmpdmlbjllhaaDoorW.PrintMore
theorem HalvesLinear_skip {a b : List Int} {c d k : Int} : Ev (fun n => abacistlaw09_HalvesLinear.j0 n a b c d k true) true := by
  refine Ev.step (fun n => abacistlaw09_HalvesLinear.j0.eq_2 ..) ?_
  simp -implicitDefEqProofs only [if_true]
  exact Ev.now _
theorem HalvesLinear_l1 {a : List Int} {n : Nat} (hn : a.length = n) (h2 : n ≤ 64) {c : Int} (hc : U c) (w : F) (x y z u : Nat → F) (hz : ∀ i, i < n → z i = x i + y i * cv c) (hu : ∀ i, i < n → u i = x i * w ^ i) :
    Ev (fun q => abacistlaw09_HalvesLinear.l1 q a c (tab n x) (tab n y) (tab n z) (tab n u) (un w) 1 0) true := by
  have e1 : (1 : Int) = un (w ^ 0) := by rw [kk]; exact un_one.symm
  rw [e1]
  refine Ev_loop n (fun q i => abacistlaw09_HalvesLinear.l1 q a c (tab n x) (tab n y) (tab n z) (tab n u) (un w) (un (w ^ i)) (i : Int)) ?_ (fun i hi ih => ?_) 0 (Nat.zero_le _)
  · refine Ev.step (fun n => abacistlaw09_HalvesLinear.l1.eq_2 ..) ?_
    simp -implicitDefEqProofs only [hn, Int.lt_irrefl, if_false]
    exact Ev.now _
  · refine Ev.step (fun n => abacistlaw09_HalvesLinear.l1.eq_2 ..) ?_
    have c0 : (i : Int) < (a.length : Int) := by omega
    have c1 : (0 : Int) ≤ (i : Int) := by omega
    have c2 : (i : Int) < (n : Int) := by omega
    simp -implicitDefEqProofs only [c0, c1, tab_length, c2, if_true, rd_tab hi]
    refine Ev.bind (abacistref02_Mul_ev (un_lo _) hc) ?_
    simp -implicitDefEqProofs only [abacistref02_Add_eq (un_lo _) (un_lo _), cv_un, Option.bind_some, hz i hi, if_true]
    refine Ev.bind (abacistref02_Mul_ev (un_lo _) (U_un _)) ?_
    simp -implicitDefEqProofs only [cv_un, hu i hi, if_true]
    refine Ev.bind (abacistref02_Mul_ev (un_lo _) (U_un _)) ?_
    simp -implicitDefEqProofs only [cv_un, nat64_succ (show i < 9223372036854775807 by omega), ks]
    exact ih
where
  kk {R : Nat} [NeZero R] (w : Fin R) : w ^ 0 = 1 := by grind
  ks (w : F) (i : Nat) : w ^ i * w = w ^ (i + 1) := kg w i
  kg {R : Nat} [NeZero R] (w : Fin R) (i : Nat) : w ^ i * w = w ^ (i + 1) := by grind
def turnr (a : List Int) (i : Nat) : List Int := raw i (fun j => a.getD ((j + a.length - 1) % a.length) 0)
theorem UL_turnr {a : List Int} (h : UL a) (i : Nat) : UL (turnr a i) := by
  intro x hx
  unfold turnr raw at hx
  obtain ⟨j, _, rfl⟩ := List.mem_map.1 hx
  exact U_getD h _
theorem HalvesLinear_last {a b : List Int} (ha : UL a) (hb : UL b) {k : Nat} (hk : k ≤ 6) (la : a.length = 2 ^ k) (lb : b.length = 2 ^ k) {c : Int} (hc : U c) {d : Int} (hd : d = 0 ∨ d = 1) :
    Ev (fun n => abacistlaw09_HalvesLinear.l0 n a b c d (k : Int) (tab (2 ^ k) (fun i => co a i + co b i * cv c)) (turnr a (2 ^ k)) ((2 ^ k : Nat) : Int)) true := by
  have hp := two_pow_lt (n := k) (m := 6) hk
  refine Ev.step (fun n => abacistlaw09_HalvesLinear.l0.eq_2 ..) ?_
  simp -implicitDefEqProofs only [la, Int.lt_irrefl, if_false]
  have hg : ∀ i, i < 2 ^ k → co (turnr a (2 ^ k)) i = co a ((i + 2 ^ k - 1) % 2 ^ k) := by
    intro i hi
    unfold turnr
    rw [co_raw, if_pos hi, la]; rfl
  have hs : ∀ j, tf k d (co (tab (2 ^ k) (fun i => co a i + co b i * cv c))) j = tf k d (co a) j + tf k d (co b) j * cv c := by
    intro j
    rw [tf_congr (g := fun i => co a i + co b i * cv c) (fun i hi => co_tab_lt hi)]
    exact tf_add _ _ _ _
  refine Ev.bind (kern2_Transform_ev ha (by omega) hd la) ?_
  refine Ev.bind (kern2_Transform_ev hb (by omega) hd lb) ?_
  refine Ev.bind (kern2_Transform_ev (UL_tab _ _) (by omega) hd (tab_length _ _)) ?_
  refine Ev.bind (kern2_Transform_ev (k := k) (UL_turnr ha _) (by omega) hd (raw_length _ _)) ?_
  simp -implicitDefEqProofs only [if_true, tab_length, bne_self_eq_false]
  refine Ev.step (fun n => abacistlaw09_HalvesLinear.j2.eq_2 ..) ?_
  refine Ev.bind (abacistref08_Root_ev (by omega) hd) ?_
  exact HalvesLinear_l1 la (by omega) hc (dr k d) _ _ _ _ (fun i _ => hs i) (fun i _ => tf_turn (by omega) hd _ _ hg i)
theorem HalvesLinear_main {a b : List Int} (ha : UL a) (hb : UL b) {k : Nat} (hk : k ≤ 6) (la : a.length = 2 ^ k) (lb : b.length = 2 ^ k) {c : Int} (hc : U c) {d : Int} (hd : d = 0 ∨ d = 1) :
    Ev (fun n => abacistlaw09_HalvesLinear.j0 n a b c d (k : Int) false) true := by
  have hp := two_pow_lt (n := k) (m := 6) hk
  refine Ev.step (fun n => abacistlaw09_HalvesLinear.j0.eq_2 ..) ?_
  have key := Ev_loop (2 ^ k) (fun n i => abacistlaw09_HalvesLinear.l0 n a b c d (k : Int) (tab i (fun i => co a i + co b i * cv c)) (turnr a i) (i : Int)) (HalvesLinear_last ha hb hk la lb hc hd) (fun i hi ih => ?_) 0 (Nat.zero_le _)
  · exact key
  · refine Ev.step (fun n => abacistlaw09_HalvesLinear.l0.eq_2 ..) ?_
    have c0 : (i : Int) < (a.length : Int) := by omega
    have c1 : (0 : Int) ≤ (i : Int) := by omega
    have c2 : (i : Int) < (b.length : Int) := by omega
    simp -implicitDefEqProofs only [c0, c1, c2, if_true]
    refine Ev.bind (abacistref02_Mul_ev (U_rd hb _).1 hc) ?_
    have e1 : wrap64 ((i : Int) + (a.length : Int)) = ((i + a.length : Nat) : Int) := by unfold wrap64; omega
    have e2 : wrap64 (((i + a.length : Nat) : Int) - 1) = ((i + a.length - 1 : Nat) : Int) := by unfold wrap64; omega
    have e3 : Int.tmod ((i + a.length - 1 : Nat) : Int) (a.length : Int) = (((i + a.length - 1) % a.length : Nat) : Int) := by rw [Int.tmod_eq_emod_of_nonneg (by omega)]; exact (Int.natCast_emod _ _).symm
    have hlt : (i + a.length - 1) % a.length < a.length := Nat.mod_lt _ (by omega)
    have c3 : (tab i (fun i => co a i + co b i * cv c)).length < 17592186044416 := by rw [tab_length]; omega
    have c4 : ¬ (a.length : Int) = 0 := by omega
    have c5 : (0 : Int) ≤ (((i + a.length - 1) % a.length : Nat) : Int) := by omega
    have c6 : (((i + a.length - 1) % a.length : Nat) : Int) < (a.length : Int) := by omega
    have c7 : (turnr a i).length < 17592186044416 := by unfold turnr; rw [raw_length]; omega
    have r1 : tab i (fun i => co a i + co b i * cv c) ++ [un (cv (rd a (i : Int)) + cv (un (cv (rd b (i : Int)) * cv c)))] = tab (i + 1) (fun i => co a i + co b i * cv c) := by
      rw [tab_succ, cv_un, cv_rd, cv_rd]
    have r2 : turnr a i ++ [rd a (((i + a.length - 1) % a.length : Nat) : Int)] = turnr a (i + 1) := by
      unfold turnr
      rw [raw_succ, rd_nat]
    simp -implicitDefEqProofs only [abacistref02_Add_eq (U_rd ha _).1 (un_lo _), Option.bind_some, e1, e2, e3, c3, c4, c5, c6, c7, if_true, if_false, r1, r2, nat64_succ (show i < 9223372036854775807 by omega)]
    exact ih
theorem HalvesLinear : abacistlaw09_HalvesLinear.Pure := by
  intro a b c d hal _ ha2 hbl _ hb2 hc0 hd0
  have ha := UL_of_wf ha2
  have hb := UL_of_wf hb2
  have hc := U_of_wf hc0
  refine Ev.rounds (g := fun n => abacistlaw09_HalvesLinear.f n a b c d) ?_
  unfold abacistlaw09_HalvesLinear.f
  refine Ev.bind abacistlaw09_awake_ev ?_
  simp -implicitDefEqProofs only [if_true]
  rcases fits_cases (a.length : Int) with ⟨k, hk, ek⟩ | h0
  · have el : a.length = 2 ^ k := by omega
    have hf := abacistref03_Fits_yes hk
    rw [← ek] at hf
    refine Ev.bind hf ?_
    by_cases q : (a.length : Int) > 64
    · simp -implicitDefEqProofs only [q, if_true]
      exact HalvesLinear_skip
    · have hk6 : k ≤ 6 := by
        have : ¬ 7 ≤ k := fun hh => by have := two_pow_lt hh; omega
        omega
      simp -implicitDefEqProofs only [q, if_false]
      by_cases c2 : (b.length : Int) = (a.length : Int)
      · simp -implicitDefEqProofs only [c2, if_true, show ¬ (k : Int) < 0 by omega, if_false]
        by_cases hd : d = 0 ∨ d = 1
        · have last := HalvesLinear_main ha hb hk6 el (by omega) hc hd
          rcases hd with rfl | rfl
          · simp -implicitDefEqProofs only [if_true]
            exact last
          · simp -implicitDefEqProofs only [show ¬ (1 : Int) = 0 by omega, if_false, bne_self_eq_false]
            exact last
        · have e1 : (d != 1) = true := bne_iff_ne.2 (fun e => hd (.inr e))
          simp -implicitDefEqProofs only [show ¬ d = 0 from fun e => hd (.inl e), if_false, e1]
          exact HalvesLinear_skip
      · simp -implicitDefEqProofs only [c2, if_false]
        exact HalvesLinear_skip
  · refine Ev.bind (abacistref03_Fits_no h0) ?_
    by_cases q : (a.length : Int) > 64
    · simp -implicitDefEqProofs only [q, if_true]
      exact HalvesLinear_skip
    · simp -implicitDefEqProofs only [q, if_false]
      by_cases c2 : (b.length : Int) = (a.length : Int)
      · simp -implicitDefEqProofs only [c2, if_true, show (-1 : Int) < 0 by omega]
        exact HalvesLinear_skip
      · simp -implicitDefEqProofs only [c2, if_false]
        exact HalvesLinear_skip
end Go.Proofs.YtggmpdmlbjllhaaDoor.Pure
