/- NaturalTexts: for any row of 64-bit words, any string and any 64-bit word the law's call answers true: what decimal digits tell is read and told again as it was, the digits of a word and of a right number of at most 20 digits of the base are told and read again, and what isn't right is told. Conditions: the row reads as a row; the listed variables of the library hold what the program lays. -/
import Derived.Test.YtaiahgnkgbfcfaaDoorBNaturalTexts
namespace Go.Proofs.YtaiahgnkgbfcfaaDoor.Pure
set_option linter.unusedVariables false
set_option linter.unusedSimpArgs false
open Go Go.RowKit Go.Proofs.YtaiahgnkgbfcfaaDoor.M Go.Proofs.YtaiahgnkgbfcfaaDoor.BNaturalTexts Go.Proofs.YtaiahgnkgbfcfaaDoor.PNaturalTexts Go.Proofs.YtaiahgnkgbfcfaaDoorW.PrintWords Go.Proofs.YtaiahgnkgbfcfaaDoorW.PrintLast Go.Proofs.YtaiahgnkgbfcfaaDoorW.PrintMore
theorem lst_size {n : Nat} : ∀ q, n < 10 ^ (q + 1) → (txt n).data.toList.length ≤ q + 1 := fun q h => by
  rw [txt_lst]; exact lst_length q h
theorem read_txt {n : Nat} (h : n < 10 ^ 101) : Ev (fun k => abacistref31_Read.f k (txt n)) (dgs n) := by
  have e : (txt n).data.toList = lst n := by rw [txt_lst]
  have h1 := ref31_Read_ev (s := txt n) (by rw [e]; exact lst_isd n) (by rw [e]; exact lst_length 100 h)
  rw [e, va_lst] at h1
  exact h1
theorem texts_j4 {a : List Int} (hu : UL a) (hla : a.length ≤ 20) : Ev (fun k => abacistlaw31_NaturalTexts.j4 k a false) true := by
  refine Ev.step (fun k => abacistlaw31_NaturalTexts.j4.eq_2 ..) ?_
  simp -implicitDefEqProofs only [Bool.false_eq_true, if_false]
  rcases hg : hk_good a with _ | _
  · refine Ev.bind (natural_Text_no hg) ?_
    have hG := ref31_Good_ev hu (by omega)
    rw [hg] at hG
    refine Ev.bind hG ?_
    simp -implicitDefEqProofs only [Bool.false_eq_true, if_false, natural_Good_eq, hg, Option.bind_some, if_true]
    rw [show ((⟨#[]⟩ : ByteArray).toList == ([] : List UInt8)) = true by rw [ByteArray.toList_eq]; rfl]
    exact Ev.now _
  · obtain ⟨hN, _⟩ := (hk_good_iff hu).1 hg
    have hlt : nv a < 10 ^ 100 := by
      have h1 := nv_lt hN.Dg
      have h2 : 65536 ^ a.length ≤ 65536 ^ 20 := Nat.pow_le_pow_right (by decide) hla
      have h3 : (65536 : Nat) ^ 20 < 10 ^ 100 := by decide
      omega
    have hd : a = dgs (nv a) := hN
    have hT := natural_Text_ev (n := nv a) (by rw [← hd]; omega)
    rw [← hd] at hT
    refine Ev.bind hT ?_
    have hG := ref31_Good_ev hu (by omega)
    rw [hg] at hG
    refine Ev.bind hG ?_
    simp -implicitDefEqProofs only [if_true, natural_Good_eq, hg, Option.bind_some]
    have hR := read_txt (n := nv a) (by have : (10 : Nat) ^ 100 < 10 ^ 101 := by decide
                                        omega)
    rw [← hd] at hR
    refine Ev.bind hR ?_
    refine Ev.bind (abacistref04_Same_refl _ (by omega)) ?_
    exact Ev.now _
theorem texts_j3 {a : List Int} (hu : UL a) (hla : a.length ≤ 20) {x : Int} (hx : U x) : Ev (fun k => abacistlaw31_NaturalTexts.j3 k a x) true := by
  obtain ⟨n, rfl⟩ : ∃ n : Nat, x = (n : Int) := ⟨x.toNat, by have := hx.1; omega⟩
  have hn : n < 18446744073709551616 := by have := hx.2; omega
  refine Ev.step (fun k => abacistlaw31_NaturalTexts.j3.eq_2 ..) ?_
  refine Ev.bind (natural_Of_ev hn) ?_
  have hl : (dgs n).length ≤ 4 := dgs_length_lt (by omega)
  refine Ev.bind (natural_Text_ev (by omega)) ?_
  simp -implicitDefEqProofs only [if_true]
  refine Ev.bind (ref04_Digits_ev hn) ?_
  rw [bne_self_eq_false]
  exact texts_j4 hu hla
/-- Is all from a place on digits? -/
theorem texts_loop {a : List Int} (hu : UL a) (hla : a.length ≤ 20) {x : Int} (hx : U x) {s : ByteArray} (hs : s.size ≤ 100) (r : List Int) (e : Int) (b0 : Bool)
    (hv : ∀ f : Bool, f = (b0 && s.data.toList.all isd) → (f = true → vld s ∧ r = dgs (va 0 s.data.toList) ∧ e = 0) ∧ (f = false → ¬ vld s ∧ r = [] ∧ e = 17)) :
    Ev (fun k => abacistlaw31_NaturalTexts.l0 k a s x r e b0 0) true := by
  have hsz : s.size = s.data.toList.length := (data_length s).symm
  have key : ∀ d i : Nat, i + d = s.data.toList.length → ∀ f : Bool, f = (b0 && (s.data.toList.take i).all isd) → Ev (fun k => abacistlaw31_NaturalTexts.l0 k a s x r e f (i : Int)) true := by
    intro d
    induction d with
    | zero =>
      intro i hi f hf
      obtain rfl : i = s.data.toList.length := by omega
      rw [List.take_length] at hf
      refine Ev.step (fun k => abacistlaw31_NaturalTexts.l0.eq_2 ..) ?_
      simp -implicitDefEqProofs only [hsz, Int.lt_irrefl, if_false]
      rcases f with _ | _
      · obtain ⟨_, rfl, rfl⟩ := (hv _ hf).2 rfl
        simp -implicitDefEqProofs only [Bool.false_eq_true, if_false, if_true, List.length_nil, show ((0 : Nat) : Int) = 0 from rfl]
        exact texts_j3 hu hla hx
      · obtain ⟨hvl, rfl, rfl⟩ := (hv _ hf).1 rfl
        have hlen := va_len hvl.2.1 (by omega)
        simp -implicitDefEqProofs only [if_true]
        refine Ev.bind (natural_Text_ev (by omega)) ?_
        have et : txt (va 0 s.data.toList) = s := by
          rw [txt_lst, lst_va (s.data.toList.length - 1) s.data.toList (by have := hvl.1; omega) hvl.2.1 (fun b t hbt hb => by
            rcases t with _ | ⟨c, t⟩
            · rfl
            · exfalso
              apply hvl.2.2
              refine ⟨?_, by rw [hsz, hbt]; simp⟩
              have h0 : 0 < s.data.toList.length := by rw [hbt]; simp
              have := bt_nat s h0
              rw [show bt s 0 = bt s ((0 : Nat) : Int) from rfl, this]
              simp only [hbt, List.getElem_cons_zero]
              omega), ba_mk]
        rw [et]
        simp -implicitDefEqProofs only [if_true]
        refine Ev.bind (ref31_Read_ev hvl.2.1 (by omega)) ?_
        refine Ev.bind (abacistref04_Same_refl _ (by omega)) ?_
        simp -implicitDefEqProofs only [if_true]
        exact texts_j3 hu hla hx
    | succ d ih =>
      intro i hi f hf
      have hil : i < s.data.toList.length := by omega
      have ih1 := ih (i + 1) (by omega) (f && isd (s.data.toList[i]'hil)) (by
        rw [hf, List.take_add_one, List.getElem?_eq_getElem hil, List.all_append, ← Bool.and_assoc]
        simp)
      refine Ev.step (fun k => abacistlaw31_NaturalTexts.l0.eq_2 ..) ?_
      simp -implicitDefEqProofs only [hsz, show (i : Int) < (s.data.toList.length : Int) by omega, if_true, show (0 : Int) ≤ (i : Int) by omega, bt_nat s hil, nat64_succ (show i < 9223372036854775807 by omega)]
      rcases f with _ | _
      · rw [Bool.false_and] at ih1
        simp -implicitDefEqProofs only [Bool.false_eq_true, if_false]
        exact ih1
      · rw [Bool.true_and] at ih1
        simp -implicitDefEqProofs only [if_true]
        unfold isd at ih1
        by_cases c : ((s.data.toList[i]'hil).toNat : Int) ≥ 48
        · simp -implicitDefEqProofs only [if_pos c]
          rw [decide_eq_true (show 48 ≤ (s.data.toList[i]'hil).toNat by omega), Bool.true_and] at ih1
          rw [show decide (((s.data.toList[i]'hil).toNat : Int) ≤ 57) = decide ((s.data.toList[i]'hil).toNat ≤ 57) from decide_eq_decide.2 (by omega)]
          exact ih1
        · simp -implicitDefEqProofs only [if_neg c]
          rw [decide_eq_false (show ¬ 48 ≤ (s.data.toList[i]'hil).toNat by omega), Bool.false_and] at ih1
          exact ih1
  exact key _ 0 (Nat.zero_add _) b0 (by rw [List.take_zero]; simp)
theorem texts_j0 {a : List Int} (hu : UL a) (hla : a.length ≤ 20) {x : Int} (hx : U x) {s : ByteArray} (hs : s.size ≤ 100) : Ev (fun k => abacistlaw31_NaturalTexts.j0 k a s x false) true := by
  have hsz : s.size = s.data.toList.length := (data_length s).symm
  have hA : s.data.toList.all isd = true ↔ ∀ b ∈ s.data.toList, isd b = true := List.all_eq_true
  refine Ev.step (fun k => abacistlaw31_NaturalTexts.j0.eq_2 ..) ?_
  simp -implicitDefEqProofs only [Bool.false_eq_true, if_false]
  have read : ∀ b0 : Bool, (vld s ↔ b0 = true ∧ ∀ b ∈ s.data.toList, isd b = true) → ∃ (r : List Int) (e : Int), Ev (fun k => natural_Read.f k s) (r, e) ∧ ∀ f : Bool, f = (b0 && s.data.toList.all isd) → (f = true → vld s ∧ r = dgs (va 0 s.data.toList) ∧ e = 0) ∧ (f = false → ¬ vld s ∧ r = [] ∧ e = 17) := by
    intro b0 hb
    by_cases c : vld s
    · refine ⟨_, _, natural_Read_ev c hs, fun f hf => ⟨fun _ => ⟨c, rfl, rfl⟩, fun h => ?_⟩⟩
      obtain ⟨h1, h2⟩ := hb.1 c
      rw [h, h1, hA.2 h2] at hf
      cases hf
    · refine ⟨_, _, natural_Read_no c hs, fun f hf => ⟨fun h => ?_, fun _ => ⟨c, rfl, rfl⟩⟩⟩
      rw [h] at hf
      have := hf.symm
      rw [Bool.and_eq_true] at this
      exact absurd (hb.2 ⟨this.1, hA.1 this.2⟩) c
  have j1 : ∀ (r : List Int) (e : Int) (b0 : Bool), (∀ f : Bool, f = (b0 && s.data.toList.all isd) → (f = true → vld s ∧ r = dgs (va 0 s.data.toList) ∧ e = 0) ∧ (f = false → ¬ vld s ∧ r = [] ∧ e = 17)) → Ev (fun k => abacistlaw31_NaturalTexts.j1 k a s x r e b0) true := fun r e b0 h => by
    refine Ev.step (fun k => abacistlaw31_NaturalTexts.j1.eq_2 ..) ?_
    exact texts_loop hu hla hx hs r e b0 h
  by_cases c0 : s.size = 0
  · obtain ⟨r, e, h1, h2⟩ := read false ⟨fun h => absurd c0 h.1, fun h => by cases h.1⟩
    refine Ev.bind h1 ?_
    have ee : s.toList = [] := by
      rw [ByteArray.toList_eq]
      exact List.eq_nil_of_length_eq_zero (by omega)
    simp -implicitDefEqProofs only [if_pos ee]
    exact j1 _ _ _ h2
  · have ee : ¬ s.toList = [] := fun h => c0 (by
      rw [hsz, ← ByteArray.toList_eq, h]; rfl)
    by_cases c1 : bt s 0 = 48
    · obtain ⟨r, e, h1, h2⟩ := read ((s.size : Int) == 1) ⟨fun h => ⟨beq_iff_eq.2 (by
        have : ¬ 1 < s.size := fun q => h.2.2 ⟨c1, q⟩
        omega), h.2.1⟩, fun h => ⟨c0, h.2, fun q => by have := beq_iff_eq.1 h.1; omega⟩⟩
      refine Ev.bind h1 ?_
      simp -implicitDefEqProofs only [if_neg ee, show (0 : Int) < (s.size : Int) by omega, if_true, if_pos c1]
      exact j1 _ _ _ h2
    · obtain ⟨r, e, h1, h2⟩ := read true ⟨fun h => ⟨rfl, h.2.1⟩, fun h => ⟨c0, h.2, fun q => c1 q.1⟩⟩
      refine Ev.bind h1 ?_
      simp -implicitDefEqProofs only [if_neg ee, show (0 : Int) < (s.size : Int) by omega, if_true, if_neg c1]
      exact j1 _ _ _ h2
theorem NaturalTexts : abacistlaw31_NaturalTexts.Pure := by
  intro a s x _ _ ha _ hx
  have hu := UL_of_wf ha
  have hx := U_of_wf hx
  have done : Ev (fun k => abacistlaw31_NaturalTexts.j0 k a s x true) true := by
    refine Ev.step (fun k => abacistlaw31_NaturalTexts.j0.eq_2 ..) ?_
    simp -implicitDefEqProofs only [if_true]
    exact Ev.now _
  have h : Ev (fun k => abacistlaw31_NaturalTexts.f k a s x) true := by
    unfold abacistlaw31_NaturalTexts.f
    refine Ev.bind abacistlaw31_awake_ev ?_
    simp -implicitDefEqProofs only [if_true]
    by_cases c1 : (a.length : Int) > 20
    · simp -implicitDefEqProofs only [if_pos c1]; exact done
    · simp -implicitDefEqProofs only [if_neg c1]
      by_cases c2 : (s.size : Int) > 100
      · rw [decide_eq_true c2]; exact done
      · rw [decide_eq_false c2]
        exact texts_j0 hu (by omega) hx (by omega)
  obtain ⟨K, hK⟩ := h
  exact ⟨K, hK K (Nat.le_refl _)⟩
end Go.Proofs.YtaiahgnkgbfcfaaDoor.Pure
