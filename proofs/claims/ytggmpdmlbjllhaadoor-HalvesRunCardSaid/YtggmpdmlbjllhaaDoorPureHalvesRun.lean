/- HalvesRun: for any row of 64-bit words, any two numbers and either choice the law's call answers true: a kernel of k bits, k at most 6, makes of a row of 2^k words the document's transform (plain: the defining sum, undivided); a row of another length or an unknown direction is refused by name and stays as it was; there is no kernel of fewer than no bits or of more than 20. Conditions: the row reads as one. -/
import Derived.Test.YtggmpdmlbjllhaaDoorBHalvesRun
namespace Go.Proofs.YtggmpdmlbjllhaaDoor.Pure
set_option linter.unusedVariables false
set_option linter.unusedSimpArgs false
open Go Go.RowKit Go.Proofs.YtggmpdmlbjllhaaDoor.M Go.Proofs.YtggmpdmlbjllhaaDoor.BHalvesRun Go.Proofs.YtggmpdmlbjllhaaDoor.PHalvesRun Go.Proofs.YtggmpdmlbjllhaaDoorW.PrintWords Go.Proofs.YtggmpdmlbjllhaaDoorW.PrintLast Go.Proofs.YtggmpdmlbjllhaaDoorW.PrintMore
theorem Same_refl (l : List Int) (h : l.length ≤ 32) : Ev (fun n => abacistref04_Same.f n l l) true := by
  have := abacistref04_Same_ev l l (by omega)
  rw [decide_eq_true rfl] at this
  exact this
theorem HalvesRun : abacistlaw09_HalvesRun.Pure := by
  intro l kk d plain _ _ hw _ _
  have hu := UL_of_wf hw
  obtain ⟨KA, hA⟩ := abacistlaw09_awake_ev
  by_cases c1 : 32 < l.length
  · exact ⟨KA, hA KA (Nat.le_refl _), .inl c1⟩
  have c1 : l.length ≤ 32 := by omega
  by_cases c2 : 6 < kk ∧ kk ≤ 20
  · exact ⟨KA, hA KA (Nat.le_refl _), .inr (.inl ⟨c1, c2⟩)⟩
  by_cases c3 : kk < 0 ∨ 20 < kk
  · exact ⟨KA, hA KA (Nat.le_refl _), .inr (.inr (.inl ⟨c1, c3⟩))⟩
  obtain ⟨k, rfl⟩ : ∃ k : Nat, kk = (k : Int) := ⟨kk.toNat, by omega⟩
  have hk : k ≤ 6 := by omega
  obtain ⟨KT, hT⟩ := hk_tabs2_ev (k := k) (by omega)
  by_cases c4 : l.length = 2 ^ k ∧ (d = 0 ∨ d = 1)
  · obtain ⟨hl, hd⟩ := c4
    obtain ⟨K1, h1⟩ := hk_run2_ev hu (k := k) (by omega) hd hl
    obtain ⟨K2, h2⟩ := hk_run2_plain hu (k := k) (by omega) hd hl
    obtain ⟨K3, h3⟩ := abacistref08_Transform_ev hu (k := k) (by omega) hd hl
    obtain ⟨K4, h4⟩ := abacistref08_Dft_ev hu (by omega) (k := k) (by omega) hd
    rw [hl] at h4
    obtain ⟨K5, h5⟩ := Same_refl (tab (2 ^ k) (tf k d (co l))) (by rw [tab_length]; omega)
    obtain ⟨K6, h6⟩ := Same_refl (tab (2 ^ k) (fun j => dft (2 ^ k) (dr k d) (co l) j)) (by rw [tab_length]; omega)
    obtain ⟨K, hK⟩ : ∃ K, K = max (max (max KA KT) (max K1 K2)) (max (max K3 K4) (max K5 K6)) := ⟨_, rfl⟩
    refine ⟨K, hA K (by omega), .inr (.inr (.inr ⟨c1, k, rfl, hk, _, _, _, hT K (by omega), .inr ⟨_, _, h1 K (by omega), h3 K (by omega), ?_⟩⟩))⟩
    cases plain
    · exact .inl ⟨rfl, h5 K (by omega)⟩
    · exact .inr ⟨rfl, _, _, h2 K (by omega), h4 K (by omega), h6 K (by omega)⟩
  · obtain ⟨K5, h5⟩ := Same_refl l c1
    obtain ⟨K, hK⟩ : ∃ K, K = max (max KA KT) K5 := ⟨_, rfl⟩
    refine ⟨K, hA K (by omega), .inr (.inr (.inr ⟨c1, k, rfl, hk, _, _, _, hT K (by omega), .inl ?_⟩))⟩
    by_cases hl : l.length = 2 ^ k
    · exact ⟨18, .inr ⟨hl, by omega, rfl⟩, h5 K (by omega)⟩
    · exact ⟨4, .inl ⟨hl, rfl⟩, h5 K (by omega)⟩
end Go.Proofs.YtggmpdmlbjllhaaDoor.Pure
