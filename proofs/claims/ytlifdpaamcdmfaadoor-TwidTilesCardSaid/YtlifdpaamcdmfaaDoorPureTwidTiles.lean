/- TwidTiles: for any row of at most 64 words, any tile, any numbers for an exponent and a direction the law's call answers true: of a tile whose shape is good and holds the row's words, and that lies within all places, each word is multiplied by the twiddle of its row and column in the whole; what else is asked is refused by name. Conditions: the arguments read as such; math/bits' listed table reads as the row says. -/
import Derived.Test.YtlifdpaamcdmfaaDoorBTwidTiles
namespace Go.Proofs.YtlifdpaamcdmfaaDoor.Pure
set_option linter.unusedVariables false
set_option linter.unusedSimpArgs false
open Go Go.RowKit Go.Proofs.YtlifdpaamcdmfaaDoor.M Go.Proofs.YtlifdpaamcdmfaaDoor.BTwidTiles Go.Proofs.YtlifdpaamcdmfaaDoor.PTwidTiles Go.Proofs.YtlifdpaamcdmfaaDoorW.PrintWords Go.Proofs.YtlifdpaamcdmfaaDoorW.PrintLast Go.Proofs.YtlifdpaamcdmfaaDoorW.PrintMore
theorem TwidTiles_odd {l : List Int} {k d R C a b : Int} : Ev (fun n => abacistlaw08_TwidTiles.j0 n l k d [] 19 true R C a b) true := by
  refine Ev.step (fun n => abacistlaw08_TwidTiles.j0.eq_2 ..) ?_
  exact Ev.now _
theorem TwidTiles_range1 {l : List Int} {k d R C a b : Int} : Ev (fun n => abacistlaw08_TwidTiles.j1 n l k d [] 2 true R C a b) true := by
  refine Ev.step (fun n => abacistlaw08_TwidTiles.j1.eq_2 ..) ?_
  exact Ev.now _
theorem TwidTiles_range {l : List Int} {k d a b : Int} {R C : Nat} (hR : R ≤ 4294967296) (hC : C ≤ 4294967296) (h : a < 0 ∨ b < 0 ∨ 4294967296 < a + R ∨ 4294967296 < b + C) : Ev (fun n => abacistlaw08_TwidTiles.j0 n l k d [] 2 false (R : Int) (C : Int) a b) true := by
  have eR : wrap64 (4294967296 - (R : Int)) = 4294967296 - (R : Int) := by unfold wrap64; omega
  have eC : wrap64 (4294967296 - (C : Int)) = 4294967296 - (C : Int) := by unfold wrap64; omega
  have step : Ev (fun n => if a < 0 then (abacistlaw08_TwidTiles.j1 n l k d [] 2 true (R : Int) (C : Int) a b) else (if b < 0 then (abacistlaw08_TwidTiles.j1 n l k d [] 2 true (R : Int) (C : Int) a b) else (if a > (wrap64 (4294967296 - (R : Int))) then (abacistlaw08_TwidTiles.j1 n l k d [] 2 true (R : Int) (C : Int) a b) else (abacistlaw08_TwidTiles.j1 n l k d [] 2 (decide (b > (wrap64 (4294967296 - (C : Int))))) (R : Int) (C : Int) a b)))) true := by
    rw [eR, eC]
    by_cases c1 : a < 0
    · simp -implicitDefEqProofs only [c1, if_true]; exact TwidTiles_range1
    · by_cases c2 : b < 0
      · simp -implicitDefEqProofs only [c1, c2, if_true, if_false]; exact TwidTiles_range1
      · by_cases c3 : a > 4294967296 - (R : Int)
        · simp -implicitDefEqProofs only [c1, c2, c3, if_true, if_false]; exact TwidTiles_range1
        · simp -implicitDefEqProofs only [c1, c2, c3, if_false, decide_eq_true (show b > 4294967296 - (C : Int) by omega)]; exact TwidTiles_range1
  refine Ev.step (fun n => abacistlaw08_TwidTiles.j0.eq_2 ..) ?_
  exact step
theorem TwidTiles_l0 {l : List Int} (hu : UL l) {k : Nat} {d : Int} {R C a b : Nat} (hk : k ≤ 32) (hd : d = 0 ∨ d = 1) (hC0 : 1 ≤ C) (hR0 : 1 ≤ R) (hl : l.length = R * C) (hl64 : l.length ≤ 64) (ha : a + R ≤ 4294967296) (hb : b + C ≤ 4294967296) :
    Ev (fun n => abacistlaw08_TwidTiles.l0 n l (k : Int) d (tab (R * C) (tl k d C a b (co l))) 0 (R : Int) (C : Int) (a : Int) (b : Int)) true := by
  refine Ev_loop (R * C) (fun n m => abacistlaw08_TwidTiles.l0 n l (k : Int) d (tab (R * C) (tl k d C a b (co l))) (m : Int) (R : Int) (C : Int) (a : Int) (b : Int)) ?_ (fun m hm ih => ?_) 0 (Nat.zero_le _)
  · refine Ev.step (fun n => abacistlaw08_TwidTiles.l0.eq_2 ..) ?_
    rw [hl]
    simp -implicitDefEqProofs only [Int.lt_irrefl, if_false]
    exact Ev.now _
  · refine Ev.step (fun n => abacistlaw08_TwidTiles.l0.eq_2 ..) ?_
    have hq : m / C < R := (Nat.div_lt_iff_lt_mul hC0).2 hm
    have hr : m % C < C := Nat.mod_lt _ hC0
    have c1 : (m : Int) < ((R * C : Nat) : Int) := by omega
    have c2 : ¬ (C : Int) = 0 := by omega
    have c3 : a + m / C ≤ 4294967295 := by omega
    have c4 : b + m % C ≤ 4294967295 := by omega
    have c5 : m < 9223372036854775807 := by omega
    have hq0 : (0 : Int) ≤ ((m / C : Nat) : Int) := Int.natCast_nonneg _
    have b1 : -9223372036854775808 ≤ ((m / C : Nat) : Int) ∧ ((m / C : Nat) : Int) < 9223372036854775808 := ⟨by omega, by omega⟩
    have e1 : wrap64 ((a : Int) + wrap64 (Int.tdiv (m : Int) (C : Int))) = ((a + m / C : Nat) : Int) := by
      rw [Int.tdiv_eq_ediv_of_nonneg (Int.natCast_nonneg m), ← Int.natCast_ediv, wrap64_of (a := ((m / C : Nat) : Int)) b1.1 b1.2]
      exact add64 (by omega)
    have e2 : wrap64 ((b : Int) + Int.tmod (m : Int) (C : Int)) = ((b + m % C : Nat) : Int) := by
      rw [Int.tmod_eq_emod_of_nonneg (Int.natCast_nonneg m), ← Int.natCast_emod]
      exact add64 (by clear e1; omega)
    rw [hl]
    simp -implicitDefEqProofs only [c1, if_true, c2, if_false, e1, e2]
    clear e1 e2
    refine Ev.bind (twid_Twiddle_ev hk hd c3 c4) ?_
    simp -implicitDefEqProofs only [if_true, Int.natCast_nonneg m, tab_length, c1]
    refine Ev.bind (abacistref02_Mul_ev (U_rd hu _).1 (U_un _)) ?_
    rw [cv_un, cv_rd, rd_tab hm]
    have e3 : un (tl k d C a b (co l) m) = un (co l m * dr k d ^ ((a + m / C) * (b + m % C))) := rfl
    simp -implicitDefEqProofs only [e3, if_true, nat64_succ c5]
    exact ih
theorem TwidTiles_ok {l : List Int} (hu : UL l) {k : Nat} {d : Int} {R C a b : Nat} (hk : k ≤ 32) (hd : d = 0 ∨ d = 1) (hC0 : 1 ≤ C) (hR0 : 1 ≤ R) (hl : l.length = R * C) (hl64 : l.length ≤ 64) (ha : a + R ≤ 4294967296) (hb : b + C ≤ 4294967296) :
    Ev (fun n => abacistlaw08_TwidTiles.j0 n l (k : Int) d (tab (R * C) (tl k d C a b (co l))) 0 false (R : Int) (C : Int) (a : Int) (b : Int)) true := by
  have eR : wrap64 (4294967296 - (R : Int)) = 4294967296 - (R : Int) := by unfold wrap64; omega
  have eC : wrap64 (4294967296 - (C : Int)) = 4294967296 - (C : Int) := by unfold wrap64; omega
  have h2 : Ev (fun n => abacistlaw08_TwidTiles.j2 n l (k : Int) d (tab (R * C) (tl k d C a b (co l))) false (R : Int) (C : Int) (a : Int) (b : Int)) true := by
    refine Ev.step (fun n => abacistlaw08_TwidTiles.j2.eq_2 ..) ?_
    exact TwidTiles_l0 hu hk hd hC0 hR0 hl hl64 ha hb
  have h1 : Ev (fun n => abacistlaw08_TwidTiles.j1 n l (k : Int) d (tab (R * C) (tl k d C a b (co l))) 0 false (R : Int) (C : Int) (a : Int) (b : Int)) true := by
    refine Ev.step (fun n => abacistlaw08_TwidTiles.j1.eq_2 ..) ?_
    rw [tab_length, hl, bne_self_eq_false]
    exact h2
  have step : Ev (fun n => if (a : Int) < 0 then (abacistlaw08_TwidTiles.j1 n l (k : Int) d (tab (R * C) (tl k d C a b (co l))) 0 true (R : Int) (C : Int) (a : Int) (b : Int)) else (if (b : Int) < 0 then (abacistlaw08_TwidTiles.j1 n l (k : Int) d (tab (R * C) (tl k d C a b (co l))) 0 true (R : Int) (C : Int) (a : Int) (b : Int)) else (if (a : Int) > (wrap64 (4294967296 - (R : Int))) then (abacistlaw08_TwidTiles.j1 n l (k : Int) d (tab (R * C) (tl k d C a b (co l))) 0 true (R : Int) (C : Int) (a : Int) (b : Int)) else (abacistlaw08_TwidTiles.j1 n l (k : Int) d (tab (R * C) (tl k d C a b (co l))) 0 (decide ((b : Int) > (wrap64 (4294967296 - (C : Int))))) (R : Int) (C : Int) (a : Int) (b : Int))))) true := by
    rw [eR, eC]
    simp -implicitDefEqProofs only [show ¬ (a : Int) < 0 by omega, show ¬ (b : Int) < 0 by omega, show ¬ (a : Int) > 4294967296 - (R : Int) by omega, if_false, decide_eq_false (show ¬ (b : Int) > 4294967296 - (C : Int) by omega)]
    exact h1
  refine Ev.step (fun n => abacistlaw08_TwidTiles.j0.eq_2 ..) ?_
  exact step
/-- What the law asks of plain values. -/
def TwidTilesPure : Prop := ∀ (l : List Int) (R C a b k d : Int), (∀ x ∈ l, (Lit.int .u64 x).wf = true) → ∃ n, abacistlaw08_TwidTiles.f n l R C a b k d = some true
theorem TwidTiles : TwidTilesPure := by
  intro l R C a b k d hl2
  have hu := UL_of_wf hl2
  refine Ev.rounds (g := fun n => abacistlaw08_TwidTiles.f n l R C a b k d) ?_
  unfold abacistlaw08_TwidTiles.f
  refine Ev.bind abacistlaw08_awake_ev ?_
  simp -implicitDefEqProofs only [if_true]
  by_cases c : (l.length : Int) > 64
  · simp -implicitDefEqProofs only [c, if_true]
    exact Ev.now _
  · simp -implicitDefEqProofs only [c, if_false]
    by_cases h : k < 0 ∨ 32 < k
    · refine Ev.bind (twid_Tile_arg h) ?_
      refine Ev.bind (abacistlaw08_wrong_arg h) ?_
      simp -implicitDefEqProofs only [show ¬ (1 : Int) = 0 by omega, if_false, if_true, List.length_nil]
      exact Ev.now _
    · by_cases hd : d = 0 ∨ d = 1
      · obtain ⟨q, rfl⟩ := Int.eq_ofNat_of_zero_le (show 0 ≤ k by omega)
        have hq : q ≤ 32 := by omega
        have hw := abacistlaw08_wrong_ok h hd
        have bad : (shape_Good.f R C = some false) → (Ev (fun n => abacistref06_Good.f n R C) false) → Ev (fun n => (twid_Tile.f n l R C a b (q : Int) d).bind fun bt240 => ((abacistlaw08_wrong.f n (q : Int) d).bind fun t244 => (if t244 = 0 then ((abacistref06_Good.f n R C).bind fun t245 => (if t245 = true then (abacistlaw08_TwidTiles.j0 n l (q : Int) d bt240.1 bt240.2 ((wrap64 (R * C)) != (l.length : Int)) R C a b) else (abacistlaw08_TwidTiles.j0 n l (q : Int) d bt240.1 bt240.2 true R C a b))) else (if bt240.2 = t244 then (some ((bt240.1.length : Int) == 0)) else (some false))))) true := by
          intro h1 h2
          refine Ev.bind (twid_Tile_odd hq hd (.inl h1)) ?_
          refine Ev.bind hw ?_
          simp -implicitDefEqProofs only [if_true]
          refine Ev.bind h2 ?_
          exact TwidTiles_odd
        rcases fits_cases R with ⟨i, hi, rfl⟩ | hR
        · rcases fits_cases C with ⟨j, hj, rfl⟩ | hC
          · by_cases hij : i + j ≤ 32
            · have g1 := shape_Good_yes hi hj
              have g2 := abacistref06_Good_yes hi hj
              rw [decide_eq_true hij] at g1 g2
              have hpi := two_pow_lt (n := i) (m := 32) hi
              have hpj := two_pow_lt (n := j) (m := 32) hj
              have hpi0 := Nat.two_pow_pos i
              have hpj0 := Nat.two_pow_pos j
              by_cases hlen : (l.length : Int) = wrap64 (((2 ^ i : Nat) : Int) * ((2 ^ j : Nat) : Int))
              · have hprod : 2 ^ i * 2 ^ j = 2 ^ (i + j) := (Nat.pow_add 2 i j).symm
                have hpij := two_pow_lt (n := i + j) (m := 32) hij
                have hlen2 : l.length = 2 ^ i * 2 ^ j := by
                  rw [← Int.natCast_mul, hprod, wrap64_of (by omega) (by omega)] at hlen
                  rw [hprod]; omega
                by_cases hr : a < 0 ∨ b < 0 ∨ 4294967296 < a + (2 ^ i : Nat) ∨ 4294967296 < b + (2 ^ j : Nat)
                · refine Ev.bind (twid_Tile_range hq hd g1 hlen (twid_reaches_no (by omega) (by omega) (by omega) (by omega) hr)) ?_
                  refine Ev.bind hw ?_
                  simp -implicitDefEqProofs only [if_true]
                  refine Ev.bind g2 ?_
                  rw [← hlen, bne_self_eq_false]
                  simp -implicitDefEqProofs only [if_true]
                  exact TwidTiles_range (by omega) (by omega) hr
                · obtain ⟨x, rfl⟩ := Int.eq_ofNat_of_zero_le (show 0 ≤ a by omega)
                  obtain ⟨y, rfl⟩ := Int.eq_ofNat_of_zero_le (show 0 ≤ b by omega)
                  refine Ev.bind (twid_Tile_ev hu hq hd g1 (by omega) (by omega) hlen2 (by omega) (a := x) (b := y) (by omega) (by omega)) ?_
                  refine Ev.bind hw ?_
                  simp -implicitDefEqProofs only [if_true]
                  refine Ev.bind g2 ?_
                  rw [← hlen, bne_self_eq_false]
                  simp -implicitDefEqProofs only [if_true]
                  exact TwidTiles_ok hu hq hd (by omega) (by omega) hlen2 (by omega) (by omega) (by omega)
              · refine Ev.bind (twid_Tile_odd hq hd (.inr ⟨g1, hlen⟩)) ?_
                refine Ev.bind hw ?_
                simp -implicitDefEqProofs only [if_true]
                refine Ev.bind g2 ?_
                rw [bne_iff_ne.2 (fun e => hlen e.symm)]
                simp -implicitDefEqProofs only [if_true]
                exact TwidTiles_odd
            · have g1 := shape_Good_yes hi hj
              have g2 := abacistref06_Good_yes hi hj
              rw [decide_eq_false hij] at g1 g2
              exact bad g1 g2
          · exact bad (shape_Good_no (.inr hC)) (abacistref06_Good_no (.inr hC))
        · exact bad (shape_Good_no (.inl hR)) (abacistref06_Good_no (.inl hR))
      · refine Ev.bind (twid_Tile_kind h hd) ?_
        refine Ev.bind (abacistlaw08_wrong_kind h hd) ?_
        simp -implicitDefEqProofs only [show ¬ (18 : Int) = 0 by omega, if_false, if_true, List.length_nil]
        exact Ev.now _
end Go.Proofs.YtlifdpaamcdmfaaDoor.Pure
