/- QuartersAlike: for any row of 64-bit words, any number and any direction the law's call answers true: of a row of 2^k words, k at most 10, that is made out of the given one, the transform by quarters and the one by halves are the same, and each one's inverse gives the row back. Conditions: the row reads as one. -/
import Derived.Test.YtggmpdmlbjllhaaDoorBQuartersAlike
namespace Go.Proofs.YtggmpdmlbjllhaaDoor.Pure
set_option linter.unusedVariables false
set_option linter.unusedSimpArgs false
open Go Go.RowKit Go.Proofs.YtggmpdmlbjllhaaDoor.M Go.Proofs.YtggmpdmlbjllhaaDoor.BQuartersAlike Go.Proofs.YtggmpdmlbjllhaaDoor.PQuartersAlike Go.Proofs.YtggmpdmlbjllhaaDoorW.PrintWords Go.Proofs.YtggmpdmlbjllhaaDoorW.PrintLast Go.Proofs.YtggmpdmlbjllhaaDoorW.PrintMore
theorem Same_refl (l : List Int) (h : l.length ≤ 100000) : Ev (fun n => abacistref04_Same.f n l l) true := by
  have := abacistref04_Same_ev l l (by omega)
  rw [decide_eq_true rfl] at this
  exact this
theorem qa_row {l : List Int} (hu : UL l) (hl : l.length ≤ 40) (N : Nat) (hN : N ≤ 1024) : ∀ i, i ≤ N → Ev (fun n => hk_qa n l (List.replicate N 0) i) (tab N (fun j => if j < i then co l (j % l.length) * cv ((j * j + 1 : Nat) : Int) else 0))
  | 0, _ => by
    unfold hk_qa
    rw [replicate_tab]
    have e : tab N (fun _ => (0 : F)) = tab N (fun j => if j < 0 then co l (j % l.length) * cv ((j * j + 1 : Nat) : Int) else 0) := tab_congr (fun j _ => (if_neg (by omega)).symm)
    rw [← e]
    exact Ev.now _
  | i + 1, hi => by
    unfold hk_qa
    refine Ev.bind (qa_row hu hl N hN i (by omega)) ?_
    have hii : i * i ≤ 1024 * 1024 := Nat.mul_le_mul (by omega) (by omega)
    refine Ev.bind (abacistref02_Mul_ev (U_rd hu _).1 (U_nat (by omega))) ?_
    refine Ev.congr (fun _ => ?_) (Ev.now _)
    refine congrArg some ?_
    rw [cv_rd, tab_set]
    refine tab_congr (fun j hj => ?_)
    by_cases e : j = i
    · rw [if_pos e, if_pos (by omega), e]
    · rw [if_neg e]
      by_cases d : j < i
      · rw [if_pos d, if_pos (by omega)]
      · rw [if_neg d, if_neg (by omega)]
theorem alike {l : List Int} {kk dir dir2 : Int} (hu : UL l) (hl : l.length ≤ 40) (hd : (dir = 0 ∧ dir2 = 1) ∨ (dir = 1 ∧ dir2 = 0)) (hk0 : 0 ≤ kk ∧ kk ≤ 255) : ∃ K, ∀ n, K ≤ n → ∃ k : Nat, k ≤ 10 ∧ Int.tmod kk 11 = (k : Int) ∧ ∃ (t0 t1 : List Int) (u0 u1 s : Int) (p0 p1 : List Int) (s2 : Int) (a r : List Int), hk_tabs4 n k t0 t1 u0 u1 s ∧ hk_tabs2 n k p0 p1 s2 ∧
    (if l.length = 0 then a = List.replicate (2 ^ k) 0 else hk_qa n l (List.replicate (2 ^ k) 0) (2 ^ k) = some a) ∧ a.length = 2 ^ k ∧ hk_run4 n k t0 t1 u0 u1 s dir false a r ∧ hk_run2 n k p0 p1 s2 dir false a r ∧ abacistref04_Same.f n r r = some true ∧
    hk_run2 n k p0 p1 s2 dir2 false r a ∧ hk_run4 n k t0 t1 u0 u1 s dir2 false r a ∧ abacistref04_Same.f n a a = some true := by
  obtain ⟨k, hk⟩ : ∃ k : Nat, k = kk.toNat % 11 := ⟨_, rfl⟩
  have hk10 : k ≤ 10 := by omega
  have hkm : Int.tmod kk 11 = (k : Int) := by rw [Int.tmod_eq_emod_of_nonneg hk0.1]; omega
  have hp := two_pow_lt (n := k) (m := 10) hk10
  have hd1 : dir = 0 ∨ dir = 1 := by omega
  have hd2 : dir2 = 0 ∨ dir2 = 1 := by omega
  have hds : dir2 = 1 - dir := by omega
  obtain ⟨A, hA⟩ : ∃ A : Nat → F, ∃ K, ∀ n, K ≤ n → (if l.length = 0 then tab (2 ^ k) A = List.replicate (2 ^ k) 0 else hk_qa n l (List.replicate (2 ^ k) 0) (2 ^ k) = some (tab (2 ^ k) A)) := by
    by_cases c : l.length = 0
    · exact ⟨fun _ => 0, 0, fun n _ => by rw [if_pos c, replicate_tab]⟩
    · obtain ⟨K, h⟩ := qa_row hu hl (2 ^ k) (by omega) (2 ^ k) (Nat.le_refl _)
      exact ⟨_, K, fun n hn => by rw [if_neg c]; exact h n hn⟩
  obtain ⟨K0, h0⟩ := hA
  obtain ⟨K1, h1⟩ := hk_tabs4_ev (k := k) (by omega)
  obtain ⟨K2, h2⟩ := hk_tabs2_ev (k := k) (by omega)
  have ua : UL (tab (2 ^ k) A) := UL_tab _ _
  have ur : UL (tab (2 ^ k) (tf k dir (co (tab (2 ^ k) A)))) := UL_tab _ _
  obtain ⟨K3, h3⟩ := hk_run4_ev ua (k := k) (by omega) hd1 (tab_length _ _)
  obtain ⟨K4, h4⟩ := hk_run2_ev ua (k := k) (by omega) hd1 (tab_length _ _)
  obtain ⟨K5, h5⟩ := hk_run4_ev ur (k := k) (by omega) hd2 (tab_length _ _)
  obtain ⟨K6, h6⟩ := hk_run2_ev ur (k := k) (by omega) hd2 (tab_length _ _)
  obtain ⟨K7, h7⟩ := Same_refl (tab (2 ^ k) (tf k dir (co (tab (2 ^ k) A)))) (by rw [tab_length]; omega)
  obtain ⟨K8, h8⟩ := Same_refl (tab (2 ^ k) A) (by rw [tab_length]; omega)
  have back : tab (2 ^ k) (tf k dir2 (co (tab (2 ^ k) (tf k dir (co (tab (2 ^ k) A)))))) = tab (2 ^ k) A := tab_congr (fun i hi => by
    rw [hds, tf_congr (g := tf k dir (co (tab (2 ^ k) A))) (fun j hj => co_tab_lt hj), tf_tf (by omega) hd1 _ hi, co_tab_lt hi])
  rw [back] at h5 h6
  obtain ⟨K, hK⟩ : ∃ K, K = max (max (max K0 K1) (max K2 K3)) (max (max K4 K5) (max (max K6 K7) K8)) := ⟨_, rfl⟩
  exact ⟨K, fun n hn => ⟨k, hk10, hkm, _, _, _, _, _, _, _, _, _, _, h1 n (by omega), h2 n (by omega), h0 n (by omega), tab_length _ _, h3 n (by omega), h4 n (by omega), h7 n (by omega), h6 n (by omega), h5 n (by omega), h8 n (by omega)⟩⟩
theorem QuartersAlike : abacistlaw10_QuartersAlike.Pure := by
  intro l kk dir _ _ hw hkw _
  have hu := UL_of_wf hw
  have hk := u8_of_wf hkw
  obtain ⟨KA, hA⟩ := abacistlaw10_awake_ev
  by_cases c1 : 40 < l.length
  · exact ⟨KA, hA KA (Nat.le_refl _), .inl c1⟩
  by_cases c2 : dir = 0 ∨ dir = 1
  · obtain ⟨dir2, hd⟩ : ∃ dir2 : Int, (dir = 0 ∧ dir2 = 1) ∨ (dir = 1 ∧ dir2 = 0) := by
      rcases c2 with h | h
      · exact ⟨1, .inl ⟨h, rfl⟩⟩
      · exact ⟨0, .inr ⟨h, rfl⟩⟩
    obtain ⟨K, h⟩ := alike (kk := kk) hu (by omega) hd ⟨hk.1, by omega⟩
    exact ⟨max K KA, hA _ (by omega), .inr (.inr ⟨by omega, ⟨hk.1, by omega⟩, dir2, hd, h _ (by omega)⟩)⟩
  · exact ⟨KA, hA KA (Nat.le_refl _), .inr (.inl ⟨by omega, c2⟩)⟩
end Go.Proofs.YtggmpdmlbjllhaaDoor.Pure
