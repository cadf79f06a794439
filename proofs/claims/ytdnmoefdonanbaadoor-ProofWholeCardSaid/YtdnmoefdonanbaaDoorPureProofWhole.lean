/- ProofWhole: for any rows x and y, any number for a direction and any word to begin at the law's call answers true: of two rows of as many words, 2^k at most 16, the sums go together at all of the words from, from + 1, .. exactly if y's words are, in the field, those of x's transform. Conditions: the rows read as such; math/bits' listed table reads as the row says. -/
import Derived.Test.YtdnmoefdonanbaaDoorBProofWhole
namespace Go.Proofs.YtdnmoefdonanbaaDoor.Pure
set_option linter.unusedVariables false
set_option linter.unusedSimpArgs false
open Go Go.RowKit Go.Proofs.YtdnmoefdonanbaaDoor.M Go.Proofs.YtdnmoefdonanbaaDoor.BProofWhole Go.Proofs.YtdnmoefdonanbaaDoor.PProofWhole Go.Proofs.YtdnmoefdonanbaaDoorW.PrintWords Go.Proofs.YtdnmoefdonanbaaDoorW.PrintLast Go.Proofs.YtdnmoefdonanbaaDoorW.PrintMore
def whF (n : Nat) (f g : Nat → F) (z : Int) : Bool := un (ev n f (cv z)) == un (ev n g (cv z))
def whP (s : Int) (j : Nat) : Int := un (cv s + cv (j : Int))
def whA (n : Nat) (f g : Nat → F) (s : Int) : Nat → Bool
  | 0 => true
  | i + 1 => if whA n f g s i = true then whF n f g (whP s i) else false
theorem whA_iff (n : Nat) (f g : Nat → F) (s : Int) (i : Nat) : whA n f g s i = true ↔ ∀ j, j < i → ev n f (cv s + cv (j : Int)) = ev n g (cv s + cv (j : Int)) := by
  induction i with
  | zero => exact ⟨fun _ j hj => by omega, fun _ => rfl⟩
  | succ i ih =>
    have hw : whF n f g (whP s i) = true ↔ ev n f (cv s + cv (i : Int)) = ev n g (cv s + cv (i : Int)) := by
      unfold whF whP
      rw [cv_un, beq_iff_eq, un_inj_iff]
    show (if whA n f g s i = true then whF n f g (whP s i) else false) = true ↔ _
    by_cases c : whA n f g s i = true
    · rw [if_pos c, hw]
      constructor
      · intro h j hj
        by_cases e : j = i
        · rw [e]; exact h
        · exact ih.1 c j (by omega)
      · intro h; exact h i (by omega)
    · rw [if_neg c]
      constructor
      · intro h; exact absurd h (by decide)
      · intro h; exact absurd (ih.2 (fun j hj => h j (by omega))) c
theorem wh_ne {s : F} {i j : Nat} (hi : i < 16) (hj : j < 16) (hne : i ≠ j) : s + cv (i : Int) ≠ s + cv (j : Int) := by
  intro h
  have h2 := cv_eq_iff.1 (k h)
  omega
where
  k {R : Nat} [NeZero R] {s a b : Fin R} (h : s + a = s + b) : a = b := by grind
theorem wh_same {k : Nat} (hk : k ≤ 4) {d : Int} (hd : d = 0 ∨ d = 1) (f g : Nat → F) (s : Int) :
    whA (2 ^ k) (tf k (1 - d) g) f s (2 ^ k) = true ↔ ∀ i, i < 2 ^ k → g i = tf k d f i := by
  have hp := two_pow_lt (n := k) (m := 4) hk
  have hd2 : 1 - d = 0 ∨ 1 - d = 1 := by omega
  have e2 : 1 - (1 - d) = d := by omega
  rw [whA_iff]
  constructor
  · intro h i hi
    have h0 : ∀ i, i < 2 ^ k → tf k (1 - d) g i - f i = 0 := by
      refine roots_zero (2 ^ k) (fun i => tf k (1 - d) g i - f i) (fun j => cv s + cv (j : Int)) (fun i j hi hj hne => wh_ne (by omega) (by omega) hne) (fun j hj => ?_)
      rw [ev_sub, h j hj]
      exact sub_self' _
    have h1 : ∀ i, i < 2 ^ k → f i = tf k (1 - d) g i := fun i hi => (eq_of_sub (h0 i hi)).symm
    have h2 := tf_tf (k := k) (by omega) hd2 g hi
    rw [e2] at h2
    rw [tf_congr (g := tf k (1 - d) g) h1, h2]
  · intro h j hj
    refine ev_congr _ (fun i hi => ?_)
    rw [tf_congr (g := tf k d f) h]
    exact tf_tf (by omega) hd f hi
theorem wh_last {k : Nat} (hk : k ≤ 4) {d : Int} (hd : d = 0 ∨ d = 1) (x y : List Int) (s : Int) :
    (whA (2 ^ k) (tf k (1 - d) (co y)) (co x) s (2 ^ k) == decide (tab (2 ^ k) (co y) = tab (2 ^ k) (tf k d (co x)))) = true := by
  rw [beq_iff_eq, Bool.eq_iff_iff, decide_eq_true_iff, wh_same hk hd]
  exact ⟨fun h => tab_congr h, fun h => (tab_inj h).2⟩
theorem ProofWhole_l0 {x y : List Int} (hx : UL x) (hy : UL y) {k : Nat} (hk : k ≤ 4) {d s : Int} (hd : d = 0 ∨ d = 1) (hxl : x.length = 2 ^ k) (hl : y.length = 2 ^ k) (hs : U s) :
    Ev (fun n => abacistlaw28_ProofWhole.l0 n x y d s (k : Int) true 0) true := by
  have hp := two_pow_lt (n := k) (m := 4) hk
  refine Ev_loop (2 ^ k) (fun n i => abacistlaw28_ProofWhole.l0 n x y d s (k : Int) (whA (2 ^ k) (tf k (1 - d) (co y)) (co x) s i) (i : Int)) ?_ (fun i hi ih => ?_) 0 (Nat.zero_le _)
  · refine Ev.step (fun n => abacistlaw28_ProofWhole.l0.eq_2 ..) ?_
    simp -implicitDefEqProofs only [hxl, Int.lt_irrefl, if_false]
    refine Ev.bind (abacistref08_Canon_ev hy (by omega)) ?_
    refine Ev.bind (abacistref08_Transform_ev hx (by omega) hd hxl) ?_
    refine Ev.bind (abacistref04_Same_ev _ _ (by rw [tab_length]; omega)) ?_
    rw [hl, wh_last hk hd]
    exact Ev.now _
  · refine Ev.step (fun n => abacistlaw28_ProofWhole.l0.eq_2 ..) ?_
    have c1 : (i : Int) < (x.length : Int) := by omega
    simp -implicitDefEqProofs only [c1, if_true, wu64_of (U_nat (n := i) (by omega)), abacistref02_Add_eq hs.1 (U_nat (n := i) (by omega)).1, Option.bind_some]
    refine Ev.bind (proof_Fits_ev hx hy (by omega) hd hxl hl (U_un _)) ?_
    simp -implicitDefEqProofs only [if_true, nat64_succ (show i < 9223372036854775807 by omega)]
    by_cases c : whA (2 ^ k) (tf k (1 - d) (co y)) (co x) s i = true
    · have e : whA (2 ^ k) (tf k (1 - d) (co y)) (co x) s (i + 1) = whF (2 ^ k) (tf k (1 - d) (co y)) (co x) (whP s i) := if_pos c
      rw [e] at ih
      simp -implicitDefEqProofs only [c, if_true]
      exact ih
    · have e : whA (2 ^ k) (tf k (1 - d) (co y)) (co x) s (i + 1) = false := if_neg c
      rw [e] at ih
      simp -implicitDefEqProofs only [c, if_false]
      exact ih
theorem ProofWhole_skip {x y : List Int} {d s k : Int} : Ev (fun n => abacistlaw28_ProofWhole.j0 n x y d s k true) true := by
  refine Ev.step (fun n => abacistlaw28_ProofWhole.j0.eq_2 ..) ?_
  simp -implicitDefEqProofs only [if_true]
  exact Ev.now _
theorem ProofWhole : abacistlaw28_ProofWhole.Pure := by
  intro x y d s hxl _ hx2 hyl _ hy2 hd0 hs0
  have hx := UL_of_wf hx2
  have hy := UL_of_wf hy2
  have hs := U_of_wf hs0
  refine Ev.rounds (g := fun n => abacistlaw28_ProofWhole.f n x y d s) ?_
  unfold abacistlaw28_ProofWhole.f
  refine Ev.bind abacistlaw28_awake_ev ?_
  simp -implicitDefEqProofs only [if_true]
  rcases fits_cases (x.length : Int) with ⟨k, hk, ek⟩ | h0
  · have el : x.length = 2 ^ k := by omega
    have hf := abacistref03_Fits_yes hk
    rw [← ek] at hf
    refine Ev.bind hf ?_
    by_cases c : (x.length : Int) > 16
    · simp -implicitDefEqProofs only [c, if_true]
      exact ProofWhole_skip
    · have hk4 : k ≤ 4 := by
        have : ¬ 5 ≤ k := fun hh => by have := two_pow_lt hh; omega
        omega
      simp -implicitDefEqProofs only [c, if_false]
      by_cases c2 : (y.length : Int) = (x.length : Int)
      · simp -implicitDefEqProofs only [c2, if_true, show ¬ (k : Int) < 0 by omega, if_false]
        by_cases hd : d = 0 ∨ d = 1
        · have last : Ev (fun n => abacistlaw28_ProofWhole.j0 n x y d s (k : Int) false) true := by
            refine Ev.step (fun n => abacistlaw28_ProofWhole.j0.eq_2 ..) ?_
            exact ProofWhole_l0 hx hy hk4 hd el (by omega) hs
          rcases hd with rfl | rfl
          · simp -implicitDefEqProofs only [if_true]
            exact last
          · simp -implicitDefEqProofs only [show ¬ (1 : Int) = 0 by omega, if_false, bne_self_eq_false]
            exact last
        · have e1 : (d != 1) = true := bne_iff_ne.2 (fun e => hd (.inr e))
          simp -implicitDefEqProofs only [show ¬ d = 0 from fun e => hd (.inl e), if_false, e1]
          exact ProofWhole_skip
      · simp -implicitDefEqProofs only [c2, if_false]
        exact ProofWhole_skip
  · refine Ev.bind (abacistref03_Fits_no h0) ?_
    by_cases c : (x.length : Int) > 16
    · simp -implicitDefEqProofs only [c, if_true]
      exact ProofWhole_skip
    · simp -implicitDefEqProofs only [c, if_false]
      by_cases c2 : (y.length : Int) = (x.length : Int)
      · simp -implicitDefEqProofs only [c2, if_true, show (-1 : Int) < 0 by omega]
        exact ProofWhole_skip
      · simp -implicitDefEqProofs only [c2, if_false]
        exact ProofWhole_skip
end Go.Proofs.YtdnmoefdonanbaaDoor.Pure
