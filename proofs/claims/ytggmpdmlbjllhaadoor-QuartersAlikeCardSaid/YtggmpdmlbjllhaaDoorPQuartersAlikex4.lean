-- Written for this claim by wip/gen/mk.sh, this session's own driver over the kit's print
import Derived.Test.YtggmpdmlbjllhaaDoorPQuartersAlikex0
import Derived.Test.YtggmpdmlbjllhaaDoorPQuartersAlikex1
import Derived.Test.YtggmpdmlbjllhaaDoorPQuartersAlikex2
import Derived.Test.YtggmpdmlbjllhaaDoorPQuartersAlikex3
namespace Go.Proofs.YtggmpdmlbjllhaaDoor.PQuartersAlike
open Go.RowKit Go.Proofs.YtggmpdmlbjllhaaDoorW.PrintWords Go.Proofs.YtggmpdmlbjllhaaDoorW.PrintLast Go.Proofs.YtggmpdmlbjllhaaDoorW.PrintMore
attribute [local go_sem] max2_int min2_int max_two min_two max_three min_three max_four min_four   -- for this text's walks alone
set_option linter.unusedVariables false
set_option linter.unusedSimpArgs false

/-! ### kern2_Kernel_Plain: function 25 (by hand) -/
set_option maxHeartbeats 8000000 in
set_option maxRecDepth 100000 in
theorem kern2_table.calls (b : Nat) (d : Int) (v0 v1 q s : Value) (TD : Option Addr) (n cd : Nat) (w : World) (hX : w.heap[b]? = some (.cells #[v0, v1, q, s] 59 (0, 0))) (hv : (d = 0 ∧ v0 = .slice TD n cd) ∨ (d = 1 ∧ v1 = .slice TD n cd)) :
    Calls Tryd.prog 44 #[.pointer (some ⟨b, 0, none⟩), .int .i64 d] w fun e w' => e = .returned (.tuple #[.slice TD n cd, .bool true]) ∧ Drawn0 w w' := by
  rcases hv with ⟨rfl, rfl⟩ | ⟨rfl, rfl⟩
  · have hc := hk_blk_cell hX 0 _ rfl
    clear hX
    go_enter Tryd.func44, Tryd.ntmps44
    go_wp2
    go_ret2
    exact ⟨rfl, by repeat (first | exact Drawn0.refl _ | apply Drawn0.step)⟩
  · have hc := hk_blk_cell hX 1 _ rfl
    clear hX
    go_enter Tryd.func44, Tryd.ntmps44
    go_wp2
    go_ret2
    exact ⟨rfl, by repeat (first | exact Drawn0.refl _ | apply Drawn0.step)⟩
def hk_gofv (a : Int) : Int := (gold_Of.f a).getD 0
theorem hk_gold_Of_some (a : Int) : gold_Of.f a = some (hk_gofv a) := by
  unfold hk_gofv gold_Of.f
  by_cases h : a ≥ 18446744069414584321
  · rw [if_pos h]; rfl
  · rw [if_neg h]; rfl
/-- The first i words of a row, brought into the field, over another row. -/
def hk_ofs (s l : List Int) : Nat → List Int
  | 0 => l
  | i + 1 => (hk_ofs s l i).set i (hk_gofv (rd s (i : Int)))
theorem hk_ofs_length (s l : List Int) : ∀ i, (hk_ofs s l i).length = l.length
  | 0 => rfl
  | i + 1 => by unfold hk_ofs; rw [List.length_set]; exact hk_ofs_length s l i
/-- The first j stages. -/
def hk_stg (n : Nat) (p l : List Int) : Nat → Option (List Int)
  | 0 => some l
  | j + 1 => (hk_stg n p l j).bind fun x => kern2_stage.f n x p ((2 ^ j : Nat) : Int)
theorem hk_stg_down {n : Nat} {p l : List Int} : ∀ {j m : Nat} {r : List Int}, hk_stg n p l (j + m) = some r → ∃ x, hk_stg n p l j = some x
  | j, 0, r, h => ⟨r, h⟩
  | j, m + 1, r, h => by
    unfold hk_stg at h
    obtain ⟨x, hx, _⟩ := Option.bind_eq_some_iff.1 h
    exact hk_stg_down (m := m) hx
theorem hk_pw_len {n k : Nat} (hk : k ≤ 20) (hl : n = 2 ^ k) : ((n : Int) != wrap64 (2 ^ min (IntKind.u64.wrap (k : Int)).toNat 64)) = false := by
  have e : IntKind.u64.wrap (k : Int) = (k : Int) := by simp [IntKind.wrap, IntKind.bits, IntKind.signed]; omega
  have h2 : 2 ^ k ≤ 2 ^ 20 := Nat.pow_le_pow_right (by omega) hk
  rw [e, Int.toNat_natCast, Nat.min_eq_left (by omega), show ((2 : Int) ^ k) = ((2 ^ k : Nat) : Int) by simp, show wrap64 ((2 ^ k : Nat) : Int) = ((2 ^ k : Nat) : Int) by unfold wrap64; omega, hl]
  exact bne_self_eq_false _
set_option maxHeartbeats 8000000 in
set_option maxRecDepth 100000 in
theorem kern2_Plain.calls (n k : Nat) (hk : k ≤ 10) (u : Value) (l0 td r : List Int) (b : Nat) (v0 v1 : Value) (s d : Int) (TD : Option Addr) (cd : Nat) (S : Nat → Prop) (hS : ∀ j, S j ↔ u.ownBlock = some j) (w0 w : World) (hG : Aside0 (TzTab w)) (hB : Below w0.heap.size w0 w)
    (ho0 : Kd.R (Kd.int .u64) 32 w w0.heap.size S u l0)
    (hX : ∀ W, Kept w W S → W.heap[b]? = some (.cells #[v0, v1, .int .u64 s, .int .i64 (k : Int)] 59 (0, 0)))
    (hT : ∀ W, Kept w W S → Kd.C (Kd.int .u64) W TD td.length td) (hcd : td.length ≤ cd)
    (hv : (d = 0 ∧ v0 = .slice TD td.length cd) ∨ (d = 1 ∧ v1 = .slice TD td.length cd))
    (hl : l0.length = 2 ^ k) (hf : root_Fits.f ((l0.length : Nat) : Int) = some ((k : Int), true)) (h : hk_stg n td (hk_ofs (hk_mv k l0 l0.length) l0 l0.length) k = some r) :
    Calls Tryd.prog 25 #[.pointer (some ⟨b, 0, none⟩), u, .int .i64 d] w fun e w' => e = .returned (.int .i64 0) ∧ Kd.R (Kd.int .u64) 32 w' w0.heap.size S u r ∧ Below w0.heap.size w0 w' ∧ Kept w w' S := by
  have HK := Aside0.mk hk
  have HB := Aside0.mk hB
  have HX := Aside0.mk hX
  have HT := Aside0.mk hT
  have HCD := Aside0.mk hcd
  have HV := Aside0.mk hv
  have HL := Aside0.mk hl
  have HF := Aside0.mk hf
  have H := Aside0.mk h
  obtain ⟨g, co, eo, gb, gl, cl, hGG⟩ := Kd.R_form ho0 (by rw [hl]; exact Nat.two_pow_pos k)
  subst eo
  have HO := Aside0.mk ho0
  have GB := Aside0.mk gb
  have HSG := Aside0.mk (show S g from (hS g).2 rfl)
  have HS := Aside0.mk hS
  have hc3 := hk_blk_cell (hX w (Kept.refl _ _)) 3 _ rfl
  have hcond := hk_pw_len (k := k) (by omega) hl
  clear hk hB hX hT hcd hv hl hf h ho0 gb gl hGG hS
  go_enter Tryd.func25, Tryd.ntmps25
  go_wp2_with (first | (go_at_call 44; (with_reducible refine (kern2_table.calls b d v0 v1 _ _ TD td.length cd _ (HX.out _ (Kept.refl _ _)) HV.out).mono ?_); rintro e w1 ⟨rfl, hb1⟩; have hb1b := hk_drawn_below hb1; have HO1 := Aside0.mk (Kd.R_below HO.out hb1b); have HB1 := Aside0.mk (HB.out.trans (hb1b.mono HB.out.size)); have HK1 := Aside0.mk (Kept.of_below hb1b S); have HG1 := Aside0.mk (hG.out.below hb1b); clear hb1 hb1b) | (go_at_call 45; (with_reducible refine (rev_Turn.calls k HK.out (some ⟨g, 0, none⟩) co l0 _ HG1 (Kd.R_reads' HO1.out).2.2 ((Kd.R_reads' HO1.out).2.1) HL.out HF.out).mono ?_); rintro e w2 ⟨vT, rfl, hR2, hB2⟩; obtain ⟨g2, co2, eo2, gb2, gl2, cl2, hGG2⟩ := Kd.R_form hR2 (by rw [hk_mv_length, HL.out]; exact Nat.two_pow_pos k); rw [hk_mv_length] at eo2; subst eo2; have HR2 := Aside0.mk hR2; have HB2 := Aside0.mk hB2; have GB2 := Aside0.mk gb2; clear hR2 hB2 gb2 gl2 hGG2))
  have HO2 := Aside0.mk (Kd.R_below HO1.out HB2.out)
  have HBt := Aside0.mk (HB1.out.trans (HB2.out.mono HB1.out.size))
  have HK2 := Aside0.mk (HK1.out.below HB2.out)
  have HT2 := Aside0.mk (Kd.C_kept_own (S := S) (Kd.R_bound HR2.out) (fun q hq hs => by
    have h1 := (HS.out q).1 hs
    have h2 : g < w1.heap.size := Kd.R_lt HO1.out g rfl
    have h3 : g = q := by simpa [Value.ownBlock] using h1
    have := hq.2.1
    omega))
  clear HO1 HB1 HK1 HR2 HB2 HO HG1
  have hn : l0.length ≤ 1024 := by rw [HL.out]; exact Nat.pow_le_pow_right (n := 2) (by omega) HK.out
  go_loopg [40] (l0.length) (fun kq v40 w' => ∃ (i : Nat), v40 = .int .i64 (i : Int) ∧ Aside0 (kq + i = l0.length) ∧ Aside0 (Kd.R (Kd.int .u64) 32 w' w0.heap.size S (.slice (some ⟨g, 0, none⟩) l0.length co) (hk_ofs (hk_mv k l0 l0.length) l0 i)) ∧ Aside0 (Below w0.heap.size w0 w') ∧ Aside0 (Kept w2 w' S))
  case atStart => exact ⟨0, by simp, ⟨by omega⟩, HO2, HBt, ⟨Kept.refl _ _⟩⟩
  case round =>
    obtain ⟨i, rfl, HI, HOi, HBi, HKi⟩ := hrel
    cases gk with
    | zero =>
      have hi := HI.out
      have c1 : decide ((i : Int) < (l0.length : Int)) = false := decide_eq_false (by omega)
      have c2 : (i < l0.length) = False := eq_false (by omega)
      have e : i = l0.length := by omega
      rw [e] at HOi
      clear hi e
      go_wp2_with fail
      go_loopg [13] k (fun kq v13 w' => ∃ (j : Nat) (h : Int) (x : List Int), v13 = .int .i64 h ∧ Aside0 (h = ((2 ^ j : Nat) : Int)) ∧ Aside0 (kq + j = k) ∧ Aside0 (hk_stg n td (hk_ofs (hk_mv k l0 l0.length) l0 l0.length) j = some x) ∧ Aside0 (Kd.R (Kd.int .u64) 32 w' w0.heap.size S (.slice (some ⟨g, 0, none⟩) l0.length co) x) ∧ Aside0 (Below w0.heap.size w0 w') ∧ Aside0 (Kept w2 w' S))
      case atStart => exact ⟨0, 1, _, rfl, ⟨by simp⟩, ⟨by omega⟩, ⟨rfl⟩, HOi, HBi, HKi⟩
      case round =>
        obtain ⟨j, h, x, rfl, HH, HJ, Hx, HOj, HBj, HKj⟩ := hrel
        cases gk with
        | zero =>
          have ej : j = k := by have := HJ.out; omega
          have d1 : decide (h < (l0.length : Int)) = false := decide_eq_false (by rw [HH.out, ej, HL.out]; omega)
          have er : x = r := by have h1 := Hx.out; rw [ej, H.out] at h1; injection h1 with h1; exact h1.symm
          rw [er] at HOj
          clear ej er
          go_wp2_with fail
          go_ret
          exact ⟨rfl, HOj.out, HBj.out, HK2.out.then_ HKj.out (fun q hq => .inl hq)⟩
        | succ k2 =>
          have ej := HJ.out
          have hlt : 2 ^ j < l0.length := by rw [HL.out]; exact Nat.pow_lt_pow_right (by omega) (by omega)
          have d1 : decide (h < (l0.length : Int)) = true := decide_eq_true (by rw [HH.out]; omega)
          have hdn : ∃ y, hk_stg n td (hk_ofs (hk_mv k l0 l0.length) l0 l0.length) (j + 1) = some y := hk_stg_down (m := k2) (by rw [show j + 1 + k2 = k by omega]; exact H.out)
          obtain ⟨y, hy⟩ := hdn
          have hy2 := hy
          unfold hk_stg at hy2
          rw [Hx.out, Option.bind_some] at hy2
          have HY := Aside0.mk hy
          rw [← HH.out] at hy2
          have HY2 := Aside0.mk hy2
          have hxl := (Kd.R_reads' HOj.out).1
          have HXL := Aside0.mk hxl
          have HLT := Aside0.mk hlt
          clear ej hlt hy hy2 hxl
          go_wp2_with ((go_at_call 47; (with_reducible refine (kern2_stage.calls n S _ x TD cd td _ y w0 _ HBj.out HOj.out ?vt HCD.out HY2.out).mono ?_); (case vt => exact Kd.C_kept_call HT.out (HK2.out.then_ HKj.out (fun q hq => .inl hq)) (fun q hq => .inl hq)); rintro e w6 ⟨rfl, hR6, hB6, hK6⟩; have HR6 := Aside0.mk hR6; have HB6 := Aside0.mk hB6; have HK6 := Aside0.mk hK6; clear hR6 hB6 hK6))
          have HR7 := Aside0.mk (Kd.R_flat (fun h => h) HR6.out (fun q hq _ => (HS.out q).2 hq))
          have HK7 := Aside0.mk (HKj.out.then_ HK6.out (fun q hq => .inl hq))
          clear HR6 HK6 d1
          go_roundg k2
          case measure => omega
          case rel => exact ⟨j + 1, wrap64 (h * 2), y, rfl, ⟨by have h1 := HH.out; have h2 := HLT.out; rw [h1, Nat.pow_succ]; unfold wrap64; omega⟩, ⟨by have := HJ.out; omega⟩, HY, HR7, HB6, HK7⟩
    | succ k1 =>
      have hi := HI.out
      have c1 : decide ((i : Int) < (l0.length : Int)) = true := decide_eq_true (by omega)
      have c2 : (i < l0.length) = True := eq_true (by omega)
      have hil : i < l0.length := by omega
      have hx := HT2.out wr HKi.out
      obtain ⟨ad, e0, hx⟩ := Kd.at_int hx (i : Int) (by omega) (by omega)
      cases e0
      rw [Int.toNat_natCast] at hx
      replace hx : wr.cell? ⟨g2, i, none⟩ = some (.int .u64 (rd (hk_mv k l0 l0.length) (i : Int))) := by by_cases c : i = 0 <;> simpa [Addr.add, c] using hx
      have h0 : (0 ≤ (i : Int)) = True := eq_true (by omega)
      have h1 : ((i : Int) < (l0.length : Int)) = True := eq_true (by omega)
      have HOF := Aside0.mk (hk_gold_Of_some (rd (hk_mv k l0 l0.length) (i : Int)))
      obtain ⟨hx2, hf2⟩ := Kd.R_celln 0 HOi.out (i : Int) (by omega) (by omega)
      rw [Int.toNat_natCast] at hx2 hf2
      clear hi hil
      go_wp2_with ((go_at_call 46; (with_reducible refine (gold_Of.calls _ _ _ HOF.out).mono ?_); rintro e w5 ⟨rfl, hb1⟩; obtain ⟨nd, rfl⟩ := hb1.out; clear hb1))
      have HP := Aside0.mk (Kd.R_putn (Kd.R_drewN HOi.out nd) (i : Int) (hk_gofv (rd (hk_mv k l0 l0.length) (i : Int))))
      have HB2 := Aside0.mk (below_set (pw_below_drewN HBi.out nd) GB.out (j := i) (v := .int .u64 (hk_gofv (rd (hk_mv k l0 l0.length) (i : Int)))))
      have HK9 := Aside0.mk ((HKi.out.drewN nd).setCell (p := ⟨g, i, none⟩) (.inl HSG.out) (.int .u64 (hk_gofv (rd (hk_mv k l0 l0.length) (i : Int)))))
      rw [Int.toNat_natCast] at HP
      generalize (wr.drewN nd).setCell ⟨g, i, none⟩ (.int .u64 (hk_gofv (rd (hk_mv k l0 l0.length) (i : Int)))) = w9 at HP HB2 HK9 ⊢
      clear hx2 hf2 h0 h1 c1 c2 hx
      go_roundg k1
      case measure => omega
      case rel => exact ⟨i + 1, (by rw [show wrap64 ((i : Int) + 1) = ((i + 1 : Nat) : Int) by have := HI.out; unfold wrap64; omega]), ⟨by have := HI.out; omega⟩, HP, HB2, HK9⟩

/-! ### twid_Scale: function 43 -/
def twid_Scale.l0 : Nat → Int → List Int → List Int → Int → Int → Option (List Int)
  | 0, _, _, _, _, _ => none
  | k + 1, x1, x5, x11, x12, x13 => if x13 < x12 then (if 0 ≤ x13 then (if x13 < (x11.length : Int) then ((gold_Mul.f (rd x11 x13) x1).bind fun t184 => (if x13 < (x5.length : Int) then (twid_Scale.l0 k x1 (x5.set (x13 : Int).toNat t184) x11 x12 (wrap64 (x13 + 1))) else (none))) else (none)) else (none)) else (some x5)
def twid_Scale.f (k : Nat) (l0 : List Int) (a1 : Int) : Option (List Int) := if 0 ≤ (l0.length : Int) then (if ((l0.length : Int) : Int).toNat ≤ 35184372088832 then (twid_Scale.l0 k a1 (List.replicate ((l0.length : Int) : Int).toNat 0) l0 (l0.length : Int) 0) else (none)) else (none)
theorem twid_Scale.mono_l : ∀ k, (∀ y0 y1 y2 y3 y4, LeO (twid_Scale.l0 k y0 y1 y2 y3 y4) (twid_Scale.l0 (k + 1) y0 y1 y2 y3 y4))
  | 0 => fun _ _ _ _ _ r h => by simp [twid_Scale.l0] at h
  | k + 1 => by
    have ih0 := twid_Scale.mono_l k
    · intro y0 y1 y2 y3 y4
      unfold twid_Scale.l0
      repeat' first
      | (with_reducible exact ih0 _ _ _ _ _)
      | (with_reducible exact LeO.refl _)
      | (with_reducible exact LeO.none _)
      | (with_reducible refine LeO.ite ?_ ?_)
      | (with_reducible refine LeO.bind ?_ (fun _ => ?_))
      | exact ih0 _ _ _ _ _
      | exact LeO.none _
      | refine LeO.ite ?_ ?_
      | refine LeO.bind ?_ (fun _ => ?_)
theorem twid_Scale.mono : ∀ a0 a1 k, LeO (twid_Scale.f k a0 a1) (twid_Scale.f (k + 1) a0 a1) := by
  intro a0 a1 k
  have ih0 := twid_Scale.mono_l k
  unfold twid_Scale.f
  repeat' first
      | (with_reducible exact ih0 _ _ _ _ _)
      | (with_reducible exact LeO.refl _)
      | (with_reducible exact LeO.none _)
      | (with_reducible refine LeO.ite ?_ ?_)
      | (with_reducible refine LeO.bind ?_ (fun _ => ?_))
      | exact ih0 _ _ _ _ _
      | exact LeO.none _
      | refine LeO.ite ?_ ?_
      | refine LeO.bind ?_ (fun _ => ?_)
set_option maxHeartbeats 8000000 in
set_option maxRecDepth 100000 in
theorem twid_Scale.calls (k : Nat) (A0 : Option Addr) (c0 : Nat) (l0 : List Int) (a1 : Int) (r : List Int) (w : World) (hr0 : Kd.C (Kd.int .u64) w A0 l0.length l0) (hc0 : l0.length ≤ c0) (h : twid_Scale.f k l0 a1 = some r) :
    Calls Tryd.prog 43 #[.slice A0 l0.length c0, .int .u64 a1] w fun e w' => ∃ v0_ : Value, e = .returned (v0_) ∧ Kd.R (Kd.int .u64) 32 w' w.heap.size (fun _ => True) v0_ r ∧ Below w.heap.size w w' := by
  have HR0 := Aside0.mk hr0
  have HC0 := Aside0.mk hc0
  clear hr0 hc0
  have HB := Aside0.mk (Below.refl w.heap.size w)
  have H : (if 0 ≤ (l0.length : Int) then (if ((l0.length : Int) : Int).toNat ≤ 35184372088832 then (twid_Scale.l0 k a1 (List.replicate ((l0.length : Int) : Int).toNat 0) l0 (l0.length : Int) 0) else (none)) else (none)) = some r := h
  clear h
  by_cases c3 : 0 ≤ (l0.length : Int)
  · rw [if_pos c3] at H
    have c3b0 := eq_true c3
    have LTc3 := Aside0.mk (show (((l0.take (0 : Int).toNat).length : Int) = max 0 0) by rw [List.length_take]; omega)
    (try (have LDc3 := Aside0.mk (show ∀ lo_ : Nat, (((l0.take (0 : Int).toNat).drop lo_).length : Int) = (((0 : Int).toNat - lo_ : Nat) : Int) from fun lo_ => by rw [List.length_drop, List.length_take]; omega)))
    have c3b1 : decide (0 ≤ (l0.length : Int)) = true := decide_eq_true c3
    clear c3
    by_cases c4 : ((l0.length : Int) : Int).toNat ≤ 35184372088832
    · rw [if_pos c4] at H
      have c4b0 := eq_true c4
      have c4b1 : decide (((l0.length : Int) : Int).toNat ≤ 35184372088832) = true := decide_eq_true c4
      clear c4
      obtain ⟨y180, hy180⟩ : ∃ y_ : List Int, y_ = (List.replicate ((l0.length : Int) : Int).toNat 0) := ⟨_, rfl⟩
      replace H : (twid_Scale.l0 k a1 y180 l0 (l0.length : Int) 0) = some r := by first | (rw [hy180]; with_reducible exact H) | (have H2_ := (Option.bind_some _ _).symm.trans H; rw [hy180]; with_reducible exact H2_) | (have H2_ := (Option.bind_some _ _).symm.trans H; with_reducible exact H2_) | with_reducible exact H | (rw [hy180]; exact H) | exact H
      have Ny180 := Aside0.mk hy180
      clear hy180
      have H' := Aside0.mk H
      clear H
      go_enter Tryd.func43, Tryd.ntmps43
      go_wp2_with (first | ((with_reducible refine gate_dst (N := 10) rfl ?_); refine Kd.R_make (Kd.int .u64) _ 32 rfl (N := 10) rfl 22 _ _ rfl (l0.length : Int) rfl rfl Tryd.underlying22 (.int .u64 0) 8 info32 rfl (by decide) (by omega) 0 (ok := fun _ => True) (okp := fun _ => True) rfl (fun _ hk => hk) trivial (of_decide_eq_true (by first | (with_reducible assumption) | assumption)) (Nat.le_trans (Nat.mul_le_mul_right _ (of_decide_eq_true (by first | (with_reducible assumption) | assumption) : (l0.length : Int).toNat ≤ 35184372088832)) (by omega)) (Below.refl _ _) (Nat.le_refl _) ?_; intro v181 w5 ho6 hb hg_ hnew_; clear hg_ hnew_; (first | rw [← Ny180.out] at ho6 | (simp only [Int.reduceToNat] at ho6; rw [← Ny180.out] at ho6)); have n0_ := Aside0.mk (Kd.R_lower ho6 (below_size (by repeat (first | (with_reducible first | exact HB.out | apply below_alloc | apply pw_below_drewN | apply below_drew1) | exact HB.out)))); have n1_ := Aside0.mk (below_step (by repeat (first | (with_reducible first | exact HB.out | apply below_alloc | apply pw_below_drewN | apply below_drew1) | exact HB.out)) hb); clear HB; have HO182 := n0_; have HB := n1_; clear n0_ n1_; clear hb ho6))
      go_loopg [13] k (fun kq v13 w' => ∃ (x5_1 : List Int) (x13_1 : Int), v13 = .int .i64 x13_1 ∧ Aside0 (twid_Scale.l0 kq a1 x5_1 l0 (l0.length : Int) x13_1 = some r) ∧ Aside0 (kq ≤ k) ∧ Aside0 (Kd.R (Kd.int .u64) 32 w' w.heap.size (fun _ => True) v181 x5_1) ∧ Aside0 (Below w.heap.size w w'))
      case atStart => exact ⟨(y180), (0), (by first | rfl | (simp; done) | (simp [*]; done)), H', ⟨Nat.le_refl _⟩, ⟨by (with_reducible repeat (first | apply Kd.R_alloc | apply Kd.R_drewN | apply Kd.R_drew)); exact HO182.out⟩, ⟨by repeat (first | (with_reducible first | exact HB.out | apply below_alloc | apply pw_below_drewN | apply below_drew1) | exact HB.out)⟩⟩
      case round =>
        clear H'
        try clear p2
        try clear c3
        try clear c3b0
        try clear c3b1
        try clear c4
        try clear c4b0
        try clear c4b1
        obtain ⟨x5_1, x13_1, rfl, HA, HK1, HO_5, HB⟩ := hrel
        cases gk with
        | zero => exact absurd HA.out (by simp [twid_Scale.l0])
        | succ k1 =>
          have H := HA.out
          clear HA
          simp only [twid_Scale.l0] at H
          by_cases c7 : x13_1 < (l0.length : Int)
          · rw [if_pos c7] at H
            have c7b0 : decide (x13_1 < (l0.length : Int)) = true := decide_eq_true c7
            (try (have c7b0_0 := c7b0; rw [LTc3.out] at c7b0_0))
            (try (have c7b0_0p := eq_true (of_decide_eq_true c7b0_0)))
            (try (have c7b0_1 := c7b0; rw [LDc3.out] at c7b0_1))
            (try (have c7b0_1p := eq_true (of_decide_eq_true c7b0_1)))
            clear c7
            by_cases c8 : 0 ≤ x13_1
            · rw [if_pos c8] at H
              have c8b0 : decide (0 ≤ x13_1) = true := decide_eq_true c8
              clear c8
              by_cases c9 : x13_1 < (l0.length : Int)
              · rw [if_pos c9] at H
                have c9b0 : decide (x13_1 < (l0.length : Int)) = true := decide_eq_true c9
                (try (have c9b0_0 := c9b0; rw [LTc3.out] at c9b0_0))
                (try (have c9b0_0p := eq_true (of_decide_eq_true c9b0_0)))
                (try (have c9b0_1 := c9b0; rw [LDc3.out] at c9b0_1))
                (try (have c9b0_1p := eq_true (of_decide_eq_true c9b0_1)))
                clear c9
                replace H := Option.bind_eq_some_iff.mp H
                obtain ⟨t184, A100, H⟩ := H
                replace H : (if x13_1 < (x5_1.length : Int) then (twid_Scale.l0 k1 a1 (x5_1.set (x13_1 : Int).toNat t184) l0 (l0.length : Int) (wrap64 (x13_1 + 1))) else (none)) = some r := H
                have A10 := Aside0.mk A100
                clear A100
                by_cases c11 : x13_1 < (x5_1.length : Int)
                · rw [if_pos c11] at H
                  have c11b0 : decide (x13_1 < (x5_1.length : Int)) = true := decide_eq_true c11
                  (try (have c11b0_0 := c11b0; rw [LTc3.out] at c11b0_0))
                  (try (have c11b0_0p := eq_true (of_decide_eq_true c11b0_0)))
                  (try (have c11b0_1 := c11b0; rw [LDc3.out] at c11b0_1))
                  (try (have c11b0_1p := eq_true (of_decide_eq_true c11b0_1)))
                  clear c11
                  obtain ⟨y185, hy185⟩ : ∃ y_ : List Int, y_ = (x5_1.set (x13_1 : Int).toNat t184) := ⟨_, rfl⟩
                  replace H : (twid_Scale.l0 k1 a1 y185 l0 (l0.length : Int) (wrap64 (x13_1 + 1))) = some r := by first | (rw [hy185]; with_reducible exact H) | (have H2_ := (Option.bind_some _ _).symm.trans H; rw [hy185]; with_reducible exact H2_) | (have H2_ := (Option.bind_some _ _).symm.trans H; with_reducible exact H2_) | with_reducible exact H | (rw [hy185]; exact H) | exact H
                  have Ny185 := Aside0.mk hy185
                  clear hy185
                  have H' := Aside0.mk H
                  clear H
                  have p183 : 0 ≤ (x13_1 : Int) := of_decide_eq_true (by first | (with_reducible assumption) | assumption)
                  have q183 : x13_1 < (l0.length : Int) := of_decide_eq_true (by first | (with_reducible assumption) | assumption)
                  obtain ⟨ad183, e183, hx183_0⟩ := Kd.at_int HR0.out x13_1 p183 q183
                  cases e183
                  replace hx183_0 := (HB.out.cell (World.block_lt_of_cell? w _ hx183_0)).trans hx183_0
                  replace p183 := eq_true p183
                  replace q183 := eq_true q183
                  go_wp2_with (first | ((with_reducible refine gate_callee (f := 38) rfl ?_); refine goesL_ (some 22) rfl rfl Tryd.func38 (by kernel_rfl) rfl #[.int .u64 (rd l0 x13_1), .int .u64 a1] rfl (by (try simp only [List.map_toArray, List.map_cons, List.map_nil]); first | done | rfl | (simp only [List.length_drop, List.length_take]; rfl)) ?_; (with_reducible refine (gold_Mul.calls (rd l0 x13_1) a1 t184 _ A10.out).mono ?_); rintro e w13 ⟨rfl, hb⟩; refine ⟨_, rfl, ?_⟩; have n0_ := Aside0.mk (Kd.R_below (by (with_reducible repeat (first | apply Kd.R_alloc | apply Kd.R_drewN | apply Kd.R_drew)); exact HO_5.out) hb); have n1_ := Aside0.mk (below_step (by repeat (first | (with_reducible first | exact HB.out | apply below_alloc | apply pw_below_drewN | apply below_drew1) | exact HB.out)) hb); clear HO_5; clear HB; have HO_5 := n0_; have HB := n1_; clear n0_ n1_; (try clear hb); (try clear hb2); (try clear hk); (try clear hi); have p12 : 0 ≤ (x13_1 : Int) := of_decide_eq_true (by first | (with_reducible assumption) | assumption); have q12 : (x13_1 : Int) < ((x5_1.length : Int) : Int) := of_decide_eq_true (by first | (with_reducible assumption) | assumption); obtain ⟨go12, co12, eo12, gb12, gl12, cl12, HG12⟩ := Kd.R_form HO_5.out (by omega); (first | cases eo12 | (injection eo12 with ea_ en_ ec_; (first | subst ea_ | (injection ea_ with ea_; subst ea_)); subst ec_; clear en_)); have GB12 := Aside0.mk gb12; have GG12 := Aside0.mk HG12; clear gb12 gl12 HG12; obtain ⟨hx12_0, hf12_0⟩ := Kd.R_celln 0 HO_5.out (x13_1 : Int) p12 q12; replace p12 := eq_true p12; replace q12 := eq_true q12; obtain ⟨hy14_, hz14_⟩ := Kd.R_celln 0 HO_5.out (x13_1 : Int) (of_decide_eq_true (by first | (with_reducible assumption) | assumption)) (of_decide_eq_true (by first | (with_reducible assumption) | assumption)); have HP14 := Kd.R_putg HO_5.out (x13_1 : Int) t184) | ((with_reducible refine gate_store (t := 32) (p := 23) rfl ?_); refine store_event (t := 32) (p := 23) (v := ?vo_w15) (w1 := (w13.setCell ⟨go12, (x13_1 : Int).toNat, none⟩ (.int .u64 t184))) ?hg ?ho ?hn ?hr ?_; (case ho => rfl); (case hg => rfl); (case hn => rfl); (case hr => first | (go_simp; done) | (go_simp; rfl)); intro w15 hw; have hg : w13.grownBy w15 (some go12) := (by rw [hw]; exact HP14.2); have hp_ : Kd.R (Kd.int .u64) 32 w15 w.heap.size (fun _ => True) (.slice (some ⟨go12, 0, none⟩) x5_1.length co12) y185 := (by rw [hw, Ny185.out]; exact HP14.1); clear HP14; have n0_ := Aside0.mk (hp_); have n1_ := Aside0.mk ((by rw [hw]; exact below_set (HB.out) GB12.out : Below w.heap.size w w15)); clear HO_5; clear HB; have HO_5 := n0_; have HB := n1_; clear n0_ n1_; clear hg hw hp_))
                  (first | go_roundg k1 | (simp only [add_plain] at *; go_roundg k1))
                  case measure => have := HK1.out; omega
                  case rel => exact ⟨(y185), (wrap64 (x13_1 + 1)), (by first | rfl | (simp; done) | (simp [*]; done)), H', ⟨by have := HK1.out; omega⟩, ⟨by (with_reducible repeat (first | apply Kd.R_alloc | apply Kd.R_drewN | apply Kd.R_drew)); exact HO_5.out⟩, ⟨by repeat (first | (with_reducible first | exact HB.out | apply below_alloc | apply pw_below_drewN | apply below_drew1) | exact HB.out)⟩⟩
                · rw [if_neg c11] at H
                  exact absurd H (by simp)
              · rw [if_neg c9] at H
                exact absurd H (by simp)
            · rw [if_neg c8] at H
              exact absurd H (by simp)
          · rw [if_neg c7] at H
            have c7b0 : decide (x13_1 < (l0.length : Int)) = false := decide_eq_false c7
            (try (have c7b0_0 := c7b0; rw [LTc3.out] at c7b0_0))
            (try (have c7b0_1 := c7b0; rw [LDc3.out] at c7b0_1))
            clear c7
            obtain rfl := Option.some.inj H
            go_wp2
            go_ret
            exact ⟨_, by first | rfl | (simp [errW_none, errW_some] <;> rfl) | (simp [*, errW_none, errW_some] <;> rfl), by (with_reducible repeat (first | apply Kd.R_alloc | apply Kd.R_drewN | apply Kd.R_drew)); exact HO_5.out, by repeat (first | (with_reducible first | exact HB.out | apply below_alloc | apply pw_below_drewN | apply below_drew1) | exact HB.out)⟩
    · rw [if_neg c4] at H
      exact absurd H (by simp)
  · rw [if_neg c3] at H
    exact absurd H (by simp)

/-! ### kern2_Kernel_Run: function 24 (by hand) -/
set_option maxHeartbeats 8000000 in
set_option maxRecDepth 100000 in
theorem kern2_Run.calls0 (n k : Nat) (hk : k ≤ 10) (u : Value) (l0 td r : List Int) (b : Nat) (v0 v1 : Value) (s : Int) (TD : Option Addr) (cd : Nat) (S : Nat → Prop) (hS : ∀ j, S j ↔ u.ownBlock = some j) (w0 w : World) (hG : Aside0 (TzTab w)) (hB : Below w0.heap.size w0 w)
    (ho0 : Kd.R (Kd.int .u64) 32 w w0.heap.size S u l0)
    (hX : ∀ W, Kept w W S → W.heap[b]? = some (.cells #[v0, v1, .int .u64 s, .int .i64 (k : Int)] 59 (0, 0)))
    (hT : ∀ W, Kept w W S → Kd.C (Kd.int .u64) W TD td.length td) (hcd : td.length ≤ cd)
    (hv : v0 = .slice TD td.length cd)
    (hl : l0.length = 2 ^ k) (hf : root_Fits.f ((l0.length : Nat) : Int) = some ((k : Int), true)) (h : hk_stg n td (hk_ofs (hk_mv k l0 l0.length) l0 l0.length) k = some r) :
    Calls Tryd.prog 24 #[.pointer (some ⟨b, 0, none⟩), u, .int .i64 0] w fun e w' => e = .returned (.int .i64 0) ∧ Kd.R (Kd.int .u64) 32 w' w0.heap.size S u r ∧ Below w0.heap.size w0 w' ∧ Kept w w' S := by
  have C := kern2_Plain.calls n k hk u l0 td r b v0 v1 s 0 TD cd S hS w0 w hG hB ho0 hX hT hcd (.inl ⟨rfl, hv⟩) hl hf h
  have C := Aside0.mk C
  obtain ⟨g, co, eo, gb, gl, cl, hGG⟩ := Kd.R_form ho0 (by rw [hl]; exact Nat.two_pow_pos k)
  subst eo
  clear hk hB hX hT hcd hv hl hf h ho0 hS gb gl hGG
  go_enter Tryd.func24, Tryd.ntmps24
  go_wp2_with (go_at_call 25; (with_reducible refine (C.out).mono ?_); rintro e w1 ⟨rfl, hR, hB, hK⟩; have hR := Aside0.mk hR; have hB := Aside0.mk hB; have hK := Aside0.mk hK)
  go_ret
  exact ⟨rfl, hR.out, hB.out, hK.out⟩
theorem hk_scale_at (k : Nat) (A0 : Option Addr) (c0 m : Nat) (l0 : List Int) (a1 : Int) (r : List Int) (w : World) (hm : m = l0.length) (hr0 : Kd.C (Kd.int .u64) w A0 l0.length l0) (hc0 : l0.length ≤ c0) (h : twid_Scale.f k l0 a1 = some r) :
    Calls Tryd.prog 43 #[.slice A0 m c0, .int .u64 a1] w fun e w' => ∃ v0_ : Value, e = .returned (v0_) ∧ Kd.R (Kd.int .u64) 32 w' w.heap.size (fun _ => True) v0_ r ∧ Below w.heap.size w w' := by
  subst hm
  exact twid_Scale.calls k A0 c0 l0 a1 r w hr0 hc0 h
set_option maxHeartbeats 800000 in
set_option maxRecDepth 100000 in
theorem kern2_Run.calls1 (n k : Nat) (hk : k ≤ 10) (u : Value) (l0 td r r2 : List Int) (b : Nat) (v0 v1 : Value) (s : Int) (TD : Option Addr) (cd : Nat) (S : Nat → Prop) (hS : ∀ j, S j ↔ u.ownBlock = some j) (w0 w : World) (hG : Aside0 (TzTab w)) (hB : Below w0.heap.size w0 w)
    (ho0 : Kd.R (Kd.int .u64) 32 w w0.heap.size S u l0)
    (hX : ∀ W, Kept w W S → W.heap[b]? = some (.cells #[v0, v1, .int .u64 s, .int .i64 (k : Int)] 59 (0, 0)))
    (hT : ∀ W, Kept w W S → Kd.C (Kd.int .u64) W TD td.length td) (hcd : td.length ≤ cd)
    (hv : v1 = .slice TD td.length cd)
    (hl : l0.length = 2 ^ k) (hf : root_Fits.f ((l0.length : Nat) : Int) = some ((k : Int), true)) (h : hk_stg n td (hk_ofs (hk_mv k l0 l0.length) l0 l0.length) k = some r) (h2 : twid_Scale.f n r s = some r2) (hr2 : r2.length = r.length) :
    Calls Tryd.prog 24 #[.pointer (some ⟨b, 0, none⟩), u, .int .i64 1] w fun e w' => e = .returned (.int .i64 0) ∧ Kd.R (Kd.int .u64) 32 w' w0.heap.size S u r2 ∧ Below w0.heap.size w0 w' ∧ Kept w w' S := by
  have C := kern2_Plain.calls n k hk u l0 td r b v0 v1 s 1 TD cd S hS w0 w hG hB ho0 hX hT hcd (.inr ⟨rfl, hv⟩) hl hf h
  have C := Aside0.mk C
  obtain ⟨g, co, eo, gb, gl, cl, hGG⟩ := Kd.R_form ho0 (by rw [hl]; exact Nat.two_pow_pos k)
  subst eo
  have HX := Aside0.mk hX
  have H2 := Aside0.mk h2
  have HR2 := Aside0.mk hr2
  have HP := Aside0.mk (show 0 < l0.length by rw [hl]; exact Nat.two_pow_pos k)
  have HSG := Aside0.mk (show S g from (hS g).2 rfl)
  have GB := Aside0.mk gb
  clear hk hB hX hT hcd hv hl hf h ho0 hS gb gl hGG h2 hr2
  go_enter Tryd.func24, Tryd.ntmps24
  go_wp2_with (first | (go_at_call 25; (with_reducible refine (C.out).mono ?_); rintro e w1 ⟨rfl, hR, hB, hK⟩; have hc2 := hk_blk_cell (HX.out _ hK) 2 _ rfl; have hR := Aside0.mk hR; have hB := Aside0.mk hB; have hK := Aside0.mk hK) | (go_at_call 43; (with_reducible refine (hk_scale_at n (some ⟨g, 0, none⟩) co l0.length r s r2 _ (Kd.R_reads' hR.out).1 (Kd.R_reads' hR.out).2.2 ?hco H2.out).mono ?_); (case hco => have h1 := Kd.R_reads' hR.out; omega); rintro e w3 ⟨vs, rfl, hs3, hb3⟩; obtain ⟨As, cs_, ev⟩ := Kd.R_slice hs3; rw [show r2.length = l0.length from HR2.out.trans (Kd.R_reads' hR.out).1.symm] at ev; subst ev; have hR3 := Aside0.mk (Kd.R_below hR.out hb3); have hB3 := Aside0.mk (hB.out.trans (hb3.mono hB.out.size)); have hK3 := Aside0.mk (hK.out.below hb3); have hs3 := Aside0.mk (Kd.R_reads' hs3).2.2; clear hb3) | ((with_reducible refine hk_wpList_copy_whole (o := ⟨some 26, _, _, _, _, _⟩) rfl (.tmp 18) (.tmp 25) 22 32 rfl Tryd.underlying22 ?ci g l0.length co As cs_ ?cd ?cs hR3.out hs3.out ?cl HP.out ?_); (case ci => rfl); (case cd => rfl); (case cs => rfl); (case cl => exact HR2.out.trans (Kd.R_reads' hR3.out).1.symm); intro w4 hR4 hg4; have hB4 := Aside0.mk (hB3.out.trans ⟨hg4.os, hg4.tape, hg4.output, hg4.size, fun q hq => hg4.block q (Nat.lt_of_lt_of_le hq hB3.out.size) (fun e => by have := GB.out; injection e with e; omega)⟩); have hK4 := Aside0.mk (Kept.of_grown hg4 hK3.out (fun q hq => .inl (by injection hq with hq; rw [← hq]; exact HSG.out))); have hR4 := Aside0.mk hR4; clear hg4))
  go_ret
  exact ⟨rfl, hR4.out, hB4.out, hK4.out⟩
theorem kern2_Run.calls (n k : Nat) (hk : k ≤ 10) (u : Value) (l0 td r rr : List Int) (b : Nat) (v0 v1 : Value) (s d : Int) (TD : Option Addr) (cd : Nat) (S : Nat → Prop) (hS : ∀ j, S j ↔ u.ownBlock = some j) (w0 w : World) (hG : Aside0 (TzTab w)) (hB : Below w0.heap.size w0 w)
    (ho0 : Kd.R (Kd.int .u64) 32 w w0.heap.size S u l0)
    (hX : ∀ W, Kept w W S → W.heap[b]? = some (.cells #[v0, v1, .int .u64 s, .int .i64 (k : Int)] 59 (0, 0)))
    (hT : ∀ W, Kept w W S → Kd.C (Kd.int .u64) W TD td.length td) (hcd : td.length ≤ cd)
    (hv : (d = 0 ∧ v0 = .slice TD td.length cd) ∨ (d = 1 ∧ v1 = .slice TD td.length cd))
    (hl : l0.length = 2 ^ k) (hf : root_Fits.f ((l0.length : Nat) : Int) = some ((k : Int), true)) (h : hk_stg n td (hk_ofs (hk_mv k l0 l0.length) l0 l0.length) k = some r)
    (h2 : (d = 0 ∧ rr = r) ∨ (d = 1 ∧ twid_Scale.f n r s = some rr ∧ rr.length = r.length)) :
    Calls Tryd.prog 24 #[.pointer (some ⟨b, 0, none⟩), u, .int .i64 d] w fun e w' => e = .returned (.int .i64 0) ∧ Kd.R (Kd.int .u64) 32 w' w0.heap.size S u rr ∧ Below w0.heap.size w0 w' ∧ Kept w w' S := by
  rcases h2 with ⟨rfl, rfl⟩ | ⟨rfl, h2, h3⟩
  · rcases hv with ⟨_, hv⟩ | ⟨hd, _⟩
    · exact kern2_Run.calls0 n k hk u l0 td rr b v0 v1 s TD cd S hS w0 w hG hB ho0 hX hT hcd hv hl hf h
    · exact absurd hd (by decide)
  · rcases hv with ⟨hd, _⟩ | ⟨_, hv⟩
    · exact absurd hd (by decide)
    · exact kern2_Run.calls1 n k hk u l0 td r rr b v0 v1 s TD cd S hS w0 w hG hB ho0 hX hT hcd hv hl hf h h2 h3
/-- What a transform by halves makes, undivided (plain) or as it is. -/
def hk_run2 (n k : Nat) (t0 t1 : List Int) (s d : Int) (plain : Bool) (l0 rr : List Int) : Prop :=
  ∃ r, (d = 0 ∨ d = 1) ∧ l0.length = 2 ^ k ∧ root_Fits.f ((l0.length : Nat) : Int) = some ((k : Int), true) ∧ hk_stg n (if d = 0 then t0 else t1) (hk_ofs (hk_mv k l0 l0.length) l0 l0.length) k = some r ∧ (((plain = true ∨ d = 0) ∧ rr = r) ∨ (plain = false ∧ d = 1 ∧ twid_Scale.f n r s = some rr ∧ rr.length = r.length))
theorem hk_Run2.use (n k : Nat) (hk : k ≤ 10) (u : Value) (l0 rr t0 t1 : List Int) (s d : Int) (lo hi b : Nat) (plain : Bool) (w0 w : World) (hG : Aside0 (TzTab w)) (hB : Below w0.heap.size w0 w) (K : hk_K2 k t0 t1 s lo hi b w)
    (ho : Kd.R (Kd.int .u64) 32 w w0.heap.size (fun _ => True) u l0) (hu : ∀ j, u.ownBlock = some j → j < lo ∨ hi ≤ j) (h : hk_run2 n k t0 t1 s d plain l0 rr) :
    Calls Tryd.prog (if plain = true then 25 else 24) #[.pointer (some ⟨b, 0, none⟩), u, .int .i64 d] w fun e w' => e = .returned (.int .i64 0) ∧ Kd.R (Kd.int .u64) 32 w' w0.heap.size (fun _ => True) u rr ∧ Below w0.heap.size w0 w' ∧ Kept w w' (fun j => u.ownBlock = some j) := by
  obtain ⟨r, hd, hl, hf, hr, h2⟩ := h
  obtain ⟨⟨h0, h1⟩, v0, v1, hX, hR0, hR1⟩ := K
  have far : ∀ j, lo ≤ j → j < hi → ¬ u.ownBlock = some j := fun j hl hj e => by have := hu j e; omega
  have hoS : Kd.R (Kd.int .u64) 32 w w0.heap.size (fun j => u.ownBlock = some j) u l0 := Kd.R_flat (fun h => h) ho (fun q hq _ => hq)
  obtain ⟨D0, m0, rfl⟩ := Kd.R_slice hR0
  obtain ⟨D1, m1, rfl⟩ := Kd.R_slice hR1
  have key : ∀ (td : List Int) (TD : Option Addr) (cd : Nat), hk_stg n td (hk_ofs (hk_mv k l0 l0.length) l0 l0.length) k = some r → Kd.R (Kd.int .u64) 32 w lo (fun j => j < hi) (.slice TD td.length cd) td → ((d = 0 ∧ (Value.slice D0 t0.length m0) = .slice TD td.length cd) ∨ (d = 1 ∧ (Value.slice D1 t1.length m1) = .slice TD td.length cd)) →
      Calls Tryd.prog (if plain = true then 25 else 24) #[.pointer (some ⟨b, 0, none⟩), u, .int .i64 d] w fun e w' => e = .returned (.int .i64 0) ∧ Kd.R (Kd.int .u64) 32 w' w0.heap.size (fun _ => True) u rr ∧ Below w0.heap.size w0 w' ∧ Kept w w' (fun j => u.ownBlock = some j) := by
    intro td TD cd hs hR hv
    have hT : ∀ W, Kept w W (fun j => u.ownBlock = some j) → Kd.C (Kd.int .u64) W TD td.length td := Kd.C_kept_own (S := fun j => u.ownBlock = some j) (Kd.R_bound hR) (fun q hq => far q hq.2.1 hq.1)
    cases plain with
    | true =>
      rw [if_pos rfl]
      rcases h2 with ⟨_, rfl⟩ | ⟨hq, _⟩
      · refine (kern2_Plain.calls n k hk u l0 td rr b _ _ s d TD cd (fun j => u.ownBlock = some j) (fun _ => Iff.rfl) w0 w hG hB hoS (fun W hW => blk_kept hX hW (far _ h0 h1)) hT (Kd.R_reads' hR).2.1 hv hl hf hs).mono ?_
        rintro e w' ⟨he, hR', hB', hK'⟩
        exact ⟨he, Kd.R_mono hR' (fun _ _ => trivial), hB', hK'⟩
      · cases hq
    | false =>
      rw [if_neg (by decide)]
      refine (kern2_Run.calls n k hk u l0 td r rr b _ _ s d TD cd (fun j => u.ownBlock = some j) (fun _ => Iff.rfl) w0 w hG hB hoS (fun W hW => blk_kept hX hW (far _ h0 h1)) hT (Kd.R_reads' hR).2.1 hv hl hf hs ?_).mono ?_
      · rcases h2 with ⟨hq | hq, e⟩ | ⟨_, hq, e⟩
        · cases hq
        · exact .inl ⟨hq, e⟩
        · exact .inr ⟨hq, e⟩
      · rintro e w' ⟨he, hR', hB', hK'⟩
        exact ⟨he, Kd.R_mono hR' (fun _ _ => trivial), hB', hK'⟩
  rcases hd with rfl | rfl
  · exact key t0 D0 m0 hr hR0 (.inl ⟨rfl, rfl⟩)
  · exact key t1 D1 m1 hr hR1 (.inr ⟨rfl, rfl⟩)
theorem hk_Run2.run (n k : Nat) (hk : k ≤ 10) (u : Value) (l0 rr t0 t1 : List Int) (s d : Int) (lo b : Nat) (w2 w : World) (hG : Aside0 (TzTab w)) (H2 : Below w2.heap.size w2 w) (K : hk_K2 k t0 t1 s lo w2.heap.size b w2)
    (ho : Kd.R (Kd.int .u64) 32 w w2.heap.size (fun _ => True) u l0) (h : hk_run2 n k t0 t1 s d false l0 rr) :
    Calls Tryd.prog 24 #[.pointer (some ⟨b, 0, none⟩), u, .int .i64 d] w fun e w' => e = .returned (.int .i64 0) ∧ Kd.R (Kd.int .u64) 32 w' w2.heap.size (fun _ => True) u rr ∧ Below w2.heap.size w2 w' ∧ Kept w w' (fun j => u.ownBlock = some j) := by
  have h := hk_Run2.use n k hk u l0 rr t0 t1 s d lo w2.heap.size b false w2 w hG H2 (K.below H2) ho (fun j hj => .inr ((Kd.R_bound ho).1 j hj).2.1) h
  rw [if_neg (by decide)] at h
  exact h
theorem hk_Run2.plain (n k : Nat) (hk : k ≤ 10) (u : Value) (l0 rr t0 t1 : List Int) (s d : Int) (lo b : Nat) (w2 w : World) (hG : Aside0 (TzTab w)) (H2 : Below w2.heap.size w2 w) (K : hk_K2 k t0 t1 s lo w2.heap.size b w2)
    (ho : Kd.R (Kd.int .u64) 32 w w2.heap.size (fun _ => True) u l0) (h : hk_run2 n k t0 t1 s d true l0 rr) :
    Calls Tryd.prog 25 #[.pointer (some ⟨b, 0, none⟩), u, .int .i64 d] w fun e w' => e = .returned (.int .i64 0) ∧ Kd.R (Kd.int .u64) 32 w' w2.heap.size (fun _ => True) u rr ∧ Below w2.heap.size w2 w' ∧ Kept w w' (fun j => u.ownBlock = some j) := by
  have h := hk_Run2.use n k hk u l0 rr t0 t1 s d lo w2.heap.size b true w2 w hG H2 (K.below H2) ho (fun j hj => .inr ((Kd.R_bound ho).1 j hj).2.1) h
  rw [if_pos rfl] at h
  exact h
set_option maxHeartbeats 800000 in
set_option maxRecDepth 100000 in
theorem kern2_table.none (b : Nat) (d : Int) (w : World) (h : d < 0 ∨ 1 < d) : Calls Tryd.prog 44 #[.pointer (some ⟨b, 0, none⟩), .int .i64 d] w fun e w' => e = .returned (.tuple #[.slice none 0 0, .bool false]) ∧ Drawn0 w w' := by
  by_cases c : d < 0
  · have d1 : decide (d < 0) = true := decide_eq_true c
    clear c h
    go_enter Tryd.func44, Tryd.ntmps44
    go_wp2
    go_ret2
    exact ⟨rfl, by repeat (first | exact Drawn0.refl _ | apply Drawn0.step)⟩
  · have d1 : decide (d < 0) = false := decide_eq_false c
    have d2 : decide (1 < d) = true := decide_eq_true (by omega)
    clear c h
    go_enter Tryd.func44, Tryd.ntmps44
    go_wp2
    go_ret2
    exact ⟨rfl, by repeat (first | exact Drawn0.refl _ | apply Drawn0.step)⟩
set_option maxHeartbeats 800000 in
set_option maxRecDepth 100000 in
theorem kern2_Plain.err (k : Nat) (hk : k ≤ 20) (t0 t1 : List Int) (s : Int) (lo hi b : Nat) (A : Option Addr) (m c : Nat) (d er : Int) (w : World) (K : hk_K2 k t0 t1 s lo hi b w) (h : hk_err k m d er) :
    Calls Tryd.prog 25 #[.pointer (some ⟨b, 0, none⟩), .slice A m c, .int .i64 d] w fun e w' => e = .returned (.int .i64 er) ∧ Drawn0 w w' := by
  obtain ⟨_, v0, v1, hX, _, _⟩ := K
  have hc3 := hk_blk_cell hX 3 _ rfl
  have hs := hk_shl_k hk
  clear hX hk
  rcases h with ⟨hm, rfl⟩ | ⟨hm, hd, rfl⟩
  · have hcond : ((m : Int) != wrap64 (2 ^ min (IntKind.u64.wrap (k : Int)).toNat 64)) = true := by rw [hs]; exact bne_iff_ne.2 (by omega)
    clear hs hm
    go_enter Tryd.func25, Tryd.ntmps25
    go_wp2
    go_ret
    exact ⟨rfl, by repeat (first | exact Drawn0.refl _ | apply Drawn0.step)⟩
  · have hcond : ((m : Int) != wrap64 (2 ^ min (IntKind.u64.wrap (k : Int)).toNat 64)) = false := by rw [hs, hm]; exact bne_self_eq_false _
    have HD := Aside0.mk hd
    clear hs hm hd
    go_enter Tryd.func25, Tryd.ntmps25
    go_wp2_with (go_at_call 44; (with_reducible refine (kern2_table.none b d _ HD.out).mono ?_); rintro e w1 ⟨rfl, hb1⟩; have hb1 := Aside0.mk hb1)
    go_ret
    exact ⟨rfl, by repeat (first | exact hb1.out | apply Drawn0.step)⟩
set_option maxHeartbeats 800000 in
set_option maxRecDepth 100000 in
theorem kern2_Run.err (k : Nat) (hk : k ≤ 20) (t0 t1 : List Int) (s : Int) (lo hi b : Nat) (A : Option Addr) (m c : Nat) (d er : Int) (w : World) (K : hk_K2 k t0 t1 s lo hi b w) (h : hk_err k m d er) :
    Calls Tryd.prog 24 #[.pointer (some ⟨b, 0, none⟩), .slice A m c, .int .i64 d] w fun e w' => e = .returned (.int .i64 er) ∧ Drawn0 w w' := by
  have C := Aside0.mk (kern2_Plain.err k hk t0 t1 s lo hi b A m c d er w K h)
  have he : er = 4 ∨ er = 18 := by rcases h with ⟨_, h⟩ | ⟨_, _, h⟩ <;> omega
  clear K h hk
  rcases he with rfl | rfl
  · go_enter Tryd.func24, Tryd.ntmps24
    go_wp2_with (go_at_call 25; (with_reducible refine (C.out).mono ?_); rintro e w1 ⟨rfl, hb1⟩; have hb1 := Aside0.mk hb1)
    go_ret
    exact ⟨rfl, by repeat (first | exact hb1.out | apply Drawn0.step)⟩
  · go_enter Tryd.func24, Tryd.ntmps24
    go_wp2_with (go_at_call 25; (with_reducible refine (C.out).mono ?_); rintro e w1 ⟨rfl, hb1⟩; have hb1 := Aside0.mk hb1)
    go_ret
    exact ⟨rfl, by repeat (first | exact hb1.out | apply Drawn0.step)⟩

theorem hk_wn {z : Nat} (h : z ≤ 1048576) : IntKind.i64.wrap (z : Int) = (z : Int) := by rw [i64_w]; unfold wrap64; omega
/-- What stands while a pass goes on: the pass, the source's row, and blocks that nobody writes. -/
structure hk_QE (w0 w : World) (gp gs gd : Nat) (P : Option Addr) (np cp cS cD : Nat) (u : Int) (src : List Int) (ex : List (Nat × Obj)) (W : World) : Prop where
  hB : Below w0.heap.size w0 W
  hK : Kept w W (fun j => j = gp ∨ j = gd)
  hX : W.heap[gp]? = some (.cells #[.slice P np cp, .int .u64 u, .slice (some ⟨gs, 0, none⟩) src.length cS, .slice (some ⟨gd, 0, none⟩) src.length cD] 90 (0, 0))
  hS : Kd.R (Kd.int .u64) 32 W w0.heap.size (fun j => j = gs) (.slice (some ⟨gs, 0, none⟩) src.length cS) src
  hE : ∀ p, p ∈ ex → W.heap[p.1]? = some p.2 ∧ p.1 ≠ gd
  ne : w0.heap.size ≤ gd ∧ gp ≠ gd ∧ gs ≠ gd
section
variable {w0 w : World} {gp gs gd : Nat} {P : Option Addr} {np cp cS cD : Nat} {u : Int} {src : List Int} {ex : List (Nat × Obj)} {W W' : World}
theorem hk_QE.below (h : hk_QE w0 w gp gs gd P np cp cS cD u src ex W) (hb : Below W.heap.size W W') : hk_QE w0 w gp gs gd P np cp cS cD u src ex W' :=
  ⟨h.hB.trans (hb.mono h.hB.size), h.hK.below hb, (hb.block _ (blk_lt h.hX)).trans h.hX, Kd.R_below h.hS hb, fun p hp => ⟨(hb.block _ (blk_lt (h.hE p hp).1)).trans (h.hE p hp).1, (h.hE p hp).2⟩, h.ne⟩
theorem hk_QE.set (h : hk_QE w0 w gp gs gd P np cp cS cD u src ex W) (j : Nat) (v : Value) : hk_QE w0 w gp gs gd P np cp cS cD u src ex (W.setCell ⟨gd, j, none⟩ v) := by
  obtain ⟨n0, n1, n2⟩ := h.ne
  refine ⟨below_set h.hB n0, h.hK.setCell (p := ⟨gd, j, none⟩) (.inl (.inr rfl)) v, ?_, Kd.R_far h.hS (p := ⟨gd, j, none⟩) (fun k hk => by subst hk; exact n2) v, fun p hp => ⟨?_, (h.hE p hp).2⟩, h.ne⟩
  · exact (Below.heap_setCell W ⟨gd, j, none⟩ v gp n1).trans h.hX
  · exact (Below.heap_setCell W ⟨gd, j, none⟩ v p.1 (h.hE p hp).2).trans (h.hE p hp).1
theorem hk_QE.drewN (h : hk_QE w0 w gp gs gd P np cp cS cD u src ex W) (m : Nat) : hk_QE w0 w gp gs gd P np cp cS cD u src ex (W.drewN m) := h.below (pw_below_drewN (Below.refl _ _) m)
theorem hk_QE.add (h : hk_QE w0 w gp gs gd P np cp cS cD u src ex W) {b : Nat} {o : Obj} (hb : W.heap[b]? = some o) (hne : b ≠ gd) : hk_QE w0 w gp gs gd P np cp cS cD u src ((b, o) :: ex) W :=
  ⟨h.hB, h.hK, h.hX, h.hS, fun p hp => by
    rcases List.mem_cons.1 hp with rfl | hp
    · exact ⟨hb, hne⟩
    · exact h.hE p hp, h.ne⟩
theorem hk_QE.sub (h : hk_QE w0 w gp gs gd P np cp cS cD u src ex W) {ex' : List (Nat × Obj)} (hs : ∀ p, p ∈ ex' → p ∈ ex) : hk_QE w0 w gp gs gd P np cp cS cD u src ex' W :=
  ⟨h.hB, h.hK, h.hX, h.hS, fun p hp => h.hE p (hs p hp), h.ne⟩
theorem hk_QE.alloc (h : hk_QE w0 w gp gs gd P np cp cS cD u src ex W) (hd : gd < W.heap.size) (cs : Array Value) (t : TypeId) : hk_QE w0 w gp gs gd P np cp cS cD u src ((W.heap.size, .cells cs t (0, 0)) :: ex) (W.alloc (.cells cs t)) :=
  (h.below (below_alloc (Below.refl _ _) _)).add (show (W.heap.push _)[W.heap.size]? = _ from Array.getElem?_push_size) (by omega)
theorem hk_QE.cell (h : hk_QE w0 w gp gs gd P np cp cS cD u src ex W) {b : Nat} {cs : Array Value} {t : TypeId} (hm : (b, Obj.cells cs t (0, 0)) ∈ ex) (i : Nat) (v : Value) (hv : cs[i]? = some v) : W.cell? ⟨b, i, none⟩ = some v := hk_blk_cell (h.hE _ hm).1 i v hv
end
theorem hk_QE.swap {w0 w : World} {gp gs gd : Nat} {P : Option Addr} {np cp cS cD : Nat} {u : Int} {src x : List Int} {ex : List (Nat × Obj)} {W : World} (h : hk_QE w0 w gp gs gd P np cp cS cD u src ex W) (hgp : w0.heap.size ≤ gp)
    (hD : Kd.R (Kd.int .u64) 32 W w0.heap.size (fun j => j = gd) (.slice (some ⟨gd, 0, none⟩) src.length cD) x) :
    Below w0.heap.size w0 ((W.setCell ⟨gp, 2, none⟩ (.slice (some ⟨gd, 0, none⟩) src.length cD)).setCell ⟨gp, 3, none⟩ (.slice (some ⟨gs, 0, none⟩) src.length cS)).drew ∧ Kept w ((W.setCell ⟨gp, 2, none⟩ (.slice (some ⟨gd, 0, none⟩) src.length cD)).setCell ⟨gp, 3, none⟩ (.slice (some ⟨gs, 0, none⟩) src.length cS)).drew (fun j => j = gp ∨ j = gd) ∧
      ((W.setCell ⟨gp, 2, none⟩ (.slice (some ⟨gd, 0, none⟩) src.length cD)).setCell ⟨gp, 3, none⟩ (.slice (some ⟨gs, 0, none⟩) src.length cS)).drew.heap[gp]? = some (.cells #[.slice P np cp, .int .u64 u, .slice (some ⟨gd, 0, none⟩) src.length cD, .slice (some ⟨gs, 0, none⟩) src.length cS] 90 (0, 0)) ∧
      Kd.R (Kd.int .u64) 32 ((W.setCell ⟨gp, 2, none⟩ (.slice (some ⟨gd, 0, none⟩) src.length cD)).setCell ⟨gp, 3, none⟩ (.slice (some ⟨gs, 0, none⟩) src.length cS)).drew w0.heap.size (fun j => j = gd) (.slice (some ⟨gd, 0, none⟩) src.length cD) x := by
  refine ⟨(below_set (below_set h.hB hgp) hgp).drew, ((h.hK.setCell (p := ⟨gp, 2, none⟩) (.inl (.inl rfl)) _).setCell (p := ⟨gp, 3, none⟩) (.inl (.inl rfl)) _).drew, ?_, ?_⟩
  · exact blk_put (blk_put h.hX 2 (.slice (some ⟨gd, 0, none⟩) src.length cD) rfl) 3 (.slice (some ⟨gs, 0, none⟩) src.length cS) rfl
  · exact Kd.R_drew (Kd.R_far (Kd.R_far hD (p := ⟨gp, 2, none⟩) (fun k hk => by subst hk; exact Ne.symm h.ne.2.1) _) (p := ⟨gp, 3, none⟩) (fun k hk => by subst hk; exact Ne.symm h.ne.2.1) _)
theorem hk_QE.drew {w0 w : World} {gp gs gd : Nat} {P : Option Addr} {np cp cS cD : Nat} {u : Int} {src : List Int} {ex : List (Nat × Obj)} {W : World} (h : hk_QE w0 w gp gs gd P np cp cS cD u src ex W) : hk_QE w0 w gp gs gd P np cp cS cD u src ex W.drew := h.below (below_drew (Below.refl _ _))
theorem hk_wdiv {a b : Nat} (h : a ≤ 1048576) : IntKind.i64.wrap ((a : Int).tdiv (b : Int)) = ((a / b : Nat) : Int) := by
  have e0 : (a : Int).tdiv (b : Int) = ((a / b : Nat) : Int) := by rw [Int.tdiv_eq_ediv_of_nonneg (by omega)]; exact (Int.natCast_ediv _ _).symm
  rw [e0, hk_wn (Nat.le_trans (Nat.div_le_self _ _) h)]
/-- A kernel by quarters stands: its blocks lie between lo and hi. -/
def hk_K4 (k : Nat) (t0 t1 : List Int) (u0 u1 s : Int) (lo hi b : Nat) (W : World) : Prop :=
  (lo ≤ b ∧ b < hi) ∧ ∃ (b2 : Nat) (v0 v1 x0 x1 x2 : Value), (lo ≤ b2 ∧ b2 < hi) ∧ W.heap[b]? = some (.cells #[.pointer (some ⟨b2, 0, none⟩), v0, v1, .int .u64 u0, .int .u64 u1, .int .u64 s] 73 (0, 0)) ∧ W.heap[b2]? = some (.cells #[x0, x1, x2, .int .i64 (k : Int)] 59 (0, 0)) ∧
    Kd.R (Kd.int .u64) 32 W lo (fun j => j < hi) v0 t0 ∧ Kd.R (Kd.int .u64) 32 W lo (fun j => j < hi) v1 t1
section
variable {k : Nat} {t0 t1 : List Int} {u0 u1 s : Int} {lo hi b : Nat} {W W2 : World} {S : Nat → Prop}
theorem hk_K4.kept (h : hk_K4 k t0 t1 u0 u1 s lo hi b W) (hk : Kept W W2 S) (hS : ∀ j, S j → j < lo ∨ hi ≤ j) : hk_K4 k t0 t1 u0 u1 s lo hi b W2 := by
  obtain ⟨⟨h0, h1⟩, b2, v0, v1, x0, x1, x2, h2, hX, hX2, hR0, hR1⟩ := h
  have no : ∀ j, lo ≤ j → j < hi → ¬ S j := fun j hl hj hs => by have := hS j hs; omega
  exact ⟨⟨h0, h1⟩, b2, v0, v1, x0, x1, x2, h2, blk_kept hX hk (no b h0 h1), blk_kept hX2 hk (no b2 h2.1 h2.2), Kd.R_mono (Kd.R_kept (Kd.R_bound hR0) hk (fun j hj => no j hj.2.1 hj.1)) (fun j hj => hj.1), Kd.R_mono (Kd.R_kept (Kd.R_bound hR1) hk (fun j hj => no j hj.2.1 hj.1)) (fun j hj => hj.1)⟩
theorem hk_K4.below (h : hk_K4 k t0 t1 u0 u1 s lo hi b W) (hb : Below W.heap.size W W2) : hk_K4 k t0 t1 u0 u1 s lo hi b W2 :=
  h.kept (Kept.of_below hb (fun _ => False)) (fun _ hf => hf.elim)
end
theorem hk_K4.inner {k : Nat} {t0 t1 : List Int} {u0 u1 s : Int} {lo hi b : Nat} {W : World} (h : hk_K4 k t0 t1 u0 u1 s lo hi b W) : ∃ (b2 : Nat) (x0 x1 x2 : Value), W.cell? ⟨b, 0, none⟩ = some (.pointer (some ⟨b2, 0, none⟩)) ∧ W.heap[b2]? = some (.cells #[x0, x1, x2, .int .i64 (k : Int)] 59 (0, 0)) := by
  obtain ⟨_, b2, v0, v1, x0, x1, x2, _, hX, hX2, _, _⟩ := h
  exact ⟨b2, x0, x1, x2, hk_blk_cell hX 0 _ rfl, hX2⟩
/-! ### kern4_Cross: function 48 (by hand) -/
set_option maxHeartbeats 8000000 in
set_option maxRecDepth 100000 in
theorem kern4_Cross.calls (a b c d u s t v q m y0 y1 y2 y3 : Int) (w : World) (h1 : gold_Add.f a c = some s) (h2 : gold_Sub.f a c = some t) (h3 : gold_Add.f b d = some v) (h4: gold_Sub.f b d = some q) (h5 : gold_Mul.f u q = some m) (h6 : gold_Add.f s v = some y0) (h7 : gold_Add.f t m = some y1) (h8 : gold_Sub.f s v = some y2) (h9 : gold_Sub.f t m = some y3) :
    Calls Tryd.prog 48 #[.int .u64 a, .int .u64 b, .int .u64 c, .int .u64 d, .int .u64 u] w fun e w' => e = .returned (.agg #[.int .u64 y0, .int .u64 y1, .int .u64 y2, .int .u64 y3]) ∧ Below w.heap.size w w' := by
  have A1 := Aside0.mk h1
  have A2 := Aside0.mk h2
  have A3 := Aside0.mk h3
  have A4 := Aside0.mk h4
  have A5 := Aside0.mk h5
  have A6 := Aside0.mk h6
  have A7 := Aside0.mk h7
  have A8 := Aside0.mk h8
  have A9 := Aside0.mk h9
  clear h1 h2 h3 h4 h5 h6 h7 h8 h9
  go_enter Tryd.func48, Tryd.ntmps48
  go_wp2_with fail
  have BK := Aside0.mk (show (w.alloc (.cells #[.int .u64 0, .int .u64 0, .int .u64 0, .int .u64 0] 67)).heap[w.heap.size]? = some (.cells #[.int .u64 0, .int .u64 0, .int .u64 0, .int .u64 0] 67 (0,0)) from Array.getElem?_push_size)
  have HB := Aside0.mk ((Below.refl w.heap.size w).alloc (Nat.le_refl _) (.cells #[.int .u64 0, .int .u64 0, .int .u64 0, .int .u64 0] 67))
  have BZ := Aside0.mk (show w.heap.size < (w.alloc (.cells #[.int .u64 0, .int .u64 0, .int .u64 0, .int .u64 0] 67)).heap.size by simp)
  obtain ⟨bb, hbb⟩ : ∃ b, b = w.heap.size := ⟨_, rfl⟩
  rw [← hbb] at BK BZ ⊢
  have Hb := Aside0.mk hbb
  clear hbb
  generalize w.alloc (.cells #[.int .u64 0, .int .u64 0, .int .u64 0, .int .u64 0] 67) = W1 at BK HB BZ ⊢
  go_wp2_with (first | (go_at_call 39; (first | (with_reducible refine (gold_Add.calls a c s _ A1.out).mono ?_) | (with_reducible refine (gold_Add.calls b d v _ A3.out).mono ?_) | (with_reducible refine (gold_Add.calls s v y0 _ A6.out).mono ?_) | (with_reducible refine (gold_Add.calls t m y1 _ A7.out).mono ?_)); rintro e w1 ⟨rfl, hb1⟩; have n0_ := Aside0.mk ((hb1.block _ BZ.out).trans BK.out); have n1_ := Aside0.mk (HB.out.trans (hb1.mono HB.out.size)); have n2_ := Aside0.mk (Nat.lt_of_lt_of_le BZ.out hb1.size); clear BK HB BZ hb1; have BK := n0_; have HB := n1_; have BZ := n2_; clear n0_ n1_ n2_) | (go_at_call 40; (first | (with_reducible refine (gold_Sub.calls a c t _ A2.out).mono ?_) | (with_reducible refine (gold_Sub.calls b d q _ A4.out).mono ?_) | (with_reducible refine (gold_Sub.calls s v y2 _ A8.out).mono ?_)); rintro e w1 ⟨rfl, hb1⟩; have n0_ := Aside0.mk ((hb1.block _ BZ.out).trans BK.out); have n1_ := Aside0.mk (HB.out.trans (hb1.mono HB.out.size)); have n2_ := Aside0.mk (Nat.lt_of_lt_of_le BZ.out hb1.size); clear BK HB BZ hb1; have BK := n0_; have HB := n1_; have BZ := n2_; clear n0_ n1_ n2_) | (go_at_call 40; (with_reducible refine (gold_Sub.calls t m y3 _ A9.out).mono ?_); rintro e w1 ⟨rfl, hb1⟩; have n0_ := Aside0.mk ((hb1.block _ BZ.out).trans BK.out); have n1_ := Aside0.mk (HB.out.trans (hb1.mono HB.out.size)); have n2_ := Aside0.mk (Nat.lt_of_lt_of_le BZ.out hb1.size); clear BK HB BZ hb1; have BK := n0_; have HB := n1_; have BZ := n2_; clear n0_ n1_ n2_; have hc0 := hk_blk_cell BK.out 0 _ rfl; have hc1 := hk_blk_cell BK.out 1 _ rfl; have hc2 := hk_blk_cell BK.out 2 _ rfl; have hc3 := hk_blk_cell BK.out 3 _ rfl; have hf0 := hk_blk_frozen BK.out 0; have hf1 := hk_blk_frozen BK.out 1; have hf2 := hk_blk_frozen BK.out 2; have hf3 := hk_blk_frozen BK.out 3) | (go_at_call 38; (with_reducible refine (gold_Mul.calls u q m _ A5.out).mono ?_); rintro e w1 ⟨rfl, hb1⟩; have n0_ := Aside0.mk ((hb1.block _ BZ.out).trans BK.out); have n1_ := Aside0.mk (HB.out.trans (hb1.mono HB.out.size)); have n2_ := Aside0.mk (Nat.lt_of_lt_of_le BZ.out hb1.size); clear BK HB BZ hb1; have BK := n0_; have HB := n1_; have BZ := n2_; clear n0_ n1_ n2_))
  clear hc0 hc1 hc2 hc3 hf0 hf1 hf2 hf3
  have X := blk_put (blk_put (blk_put (blk_put BK.out 0 (.int .u64 y0) rfl) 1 (.int .u64 y1) rfl) 2 (.int .u64 y2) rfl) 3 (.int .u64 y3) rfl
  have hge : w.heap.size ≤ bb := by rw [Hb.out]; exact Nat.le_refl _
  refine bodyPost_ret (results_cell_row rfl _ _ bb 67 #[.int .u64 y0, .int .u64 y1, .int .u64 y2, .int .u64 y3] (0, 0) _ rfl X Tryd.underlying67 rfl (by kernel_rfl)) rfl ?_
  exact ⟨rfl, below_set (below_set (below_set (below_set HB.out hge) hge) hge) hge⟩
def hk_crossO (a b c d u : Int) : Option (Int × Int × Int × Int) := (gold_Add.f a c).bind fun s => (gold_Sub.f a c).bind fun t => (gold_Add.f b d).bind fun v => (gold_Sub.f b d).bind fun q => (gold_Mul.f u q).bind fun m => (gold_Add.f s v).bind fun y0 => (gold_Add.f t m).bind fun y1 => (gold_Sub.f s v).bind fun y2 => (gold_Sub.f t m).bind fun y3 => some (y0, y1, y2, y3)
theorem kern4_Cross.callsO (a b c d u y0 y1 y2 y3 : Int) (w : World) (h : hk_crossO a b c d u = some (y0, y1, y2, y3)) :
    Calls Tryd.prog 48 #[.int .u64 a, .int .u64 b, .int .u64 c, .int .u64 d, .int .u64 u] w fun e w' => e = .returned (.agg #[.int .u64 y0, .int .u64 y1, .int .u64 y2, .int .u64 y3]) ∧ Below w.heap.size w w' := by
  unfold hk_crossO at h
  obtain ⟨s, h1, h⟩ := Option.bind_eq_some_iff.1 h
  obtain ⟨t, h2, h⟩ := Option.bind_eq_some_iff.1 h
  obtain ⟨v, h3, h⟩ := Option.bind_eq_some_iff.1 h
  obtain ⟨q, h4, h⟩ := Option.bind_eq_some_iff.1 h
  obtain ⟨m, h5, h⟩ := Option.bind_eq_some_iff.1 h
  obtain ⟨z0, h6, h⟩ := Option.bind_eq_some_iff.1 h
  obtain ⟨z1, h7, h⟩ := Option.bind_eq_some_iff.1 h
  obtain ⟨z2, h8, h⟩ := Option.bind_eq_some_iff.1 h
  obtain ⟨z3, h9, h⟩ := Option.bind_eq_some_iff.1 h
  injection h with h
  injection h with e0 h
  injection h with e1 h
  injection h with e2 e3
  subst e0 e1 e2 e3
  exact kern4_Cross.calls a b c d u s t v q m z0 z1 z2 z3 w h1 h2 h3 h4 h5 h6 h7 h8 h9

/-! ### kern4_Unit: function 49 -/
def kern4_Unit.f (k : Nat) (a0 : Int) : Option (Int × Int) := (twid_Root.f k 2 a0).bind fun bt186 => (some (bt186.1, bt186.2))
theorem kern4_Unit.mono : ∀ a0 k, LeO (kern4_Unit.f k a0) (kern4_Unit.f (k + 1) a0) := by
  intro a0 k
  unfold kern4_Unit.f
  repeat' first
      | (with_reducible exact twid_Root.mono _ _ _)
      | (with_reducible exact LeO.refl _)
      | (with_reducible exact LeO.none _)
      | (with_reducible refine LeO.ite ?_ ?_)
      | (with_reducible refine LeO.bind ?_ (fun _ => ?_))
      | exact twid_Root.mono _ _ _
      | exact LeO.none _
      | refine LeO.ite ?_ ?_
      | refine LeO.bind ?_ (fun _ => ?_)
set_option maxHeartbeats 8000000 in
set_option maxRecDepth 100000 in
theorem kern4_Unit.calls (k : Nat) (a0 : Int) (r1 : Int) (r2 : Int) (w : World) (h : kern4_Unit.f k a0 = some (r1, r2)) :
    Calls Tryd.prog 49 #[.int .i64 a0] w fun e w' => e = .returned (.tuple #[.int .u64 r1, .int .i64 r2]) ∧ Below w.heap.size w w' := by
  have HB := Aside0.mk (Below.refl w.heap.size w)
  have H : ((twid_Root.f k 2 a0).bind fun bt186 => (some (bt186.1, bt186.2))) = some (r1, r2) := h
  clear h
  replace H := Option.bind_eq_some_iff.mp H
  obtain ⟨⟨t186, t187⟩, A20, H⟩ := H
  replace H : (some (t186, t187)) = some (r1, r2) := H
  have A2 := Aside0.mk A20
  clear A20
  simp only [Option.some.injEq, Prod.mk.injEq] at H
  obtain ⟨rfl, rfl⟩ := H
  go_enter Tryd.func49, Tryd.ntmps49
  go_wp2_with (first | ((with_reducible refine gate_callee (f := 57) rfl ?_); refine goesL_ (some 5) rfl rfl Tryd.func57 (by kernel_rfl) rfl #[.int .i64 2, .int .i64 a0] rfl (by (try simp only [List.map_toArray, List.map_cons, List.map_nil]); first | done | rfl | (simp only [List.length_drop, List.length_take]; rfl)) ?_; (with_reducible refine (twid_Root.calls k 2 a0 t186 t187 _ A2.out).mono ?_); rintro e w3 ⟨rfl, hb⟩; refine ⟨_, rfl, ?_⟩; have n0_ := Aside0.mk (below_step (by repeat (first | (with_reducible first | exact HB.out | apply below_alloc | apply pw_below_drewN | apply below_drew1) | exact HB.out)) hb); clear HB; have HB := n0_; clear n0_; (try clear hb); (try clear hb2); (try clear hk); (try clear hi)))
  go_ret2
  exact ⟨by first | rfl | (simp [errW_none, errW_some] <;> rfl) | (simp [*, errW_none, errW_some] <;> rfl), by repeat (first | (with_reducible first | exact HB.out | apply below_alloc | apply pw_below_drewN | apply below_drew1) | exact HB.out)⟩

/-! ### abacistlaw10_awake: function 27 (by hand) -/
theorem hk4_part {P : Program} (w : World) (e : TypeId) (cs : Array Value) (i : Nat) (k : IntKind) (a : Int) (he : P.underlying e = some (.int k)) (hi : (P.info? e).map (·.size) = some 1) (hc : cs[i]? = some (.int k a)) : (part e cs i).run P w = .ok (.int k a) w := by
  cases hq : P.info? e with
  | none => simp [hq] at hi
  | some j =>
    have hs : j.size = 1 := by simpa [hq] using hi
    have hg := Array.getElem?_eq_some_iff.1 hc
    obtain ⟨h1, h2⟩ := hg
    simp [part, sizeOf, typeInfo, hq, hs, isAgg, run_underlying he, Sem.run_bind, h1, h2, hc]
theorem hk4_eqIn {P : Program} (w : World) (t e : TypeId) (a b c d : Int) (ht : P.underlying t = some (.array 4 e)) (he : P.underlying e = some (.int .u64)) (hi : (P.info? e).map (·.size) = some 1) :
    (Op.equalIn 10000 t (.agg #[.int .u64 a, .int .u64 b, .int .u64 c, .int .u64 d]) (.agg #[.int .u64 a, .int .u64 b, .int .u64 c, .int .u64 d])).run P w = .ok true w := by
  have h0 := hk4_part w e #[.int .u64 a, .int .u64 b, .int .u64 c, .int .u64 d] 0 .u64 a he hi rfl
  have h1 := hk4_part w e #[.int .u64 a, .int .u64 b, .int .u64 c, .int .u64 d] 1 .u64 b he hi rfl
  have h2 := hk4_part w e #[.int .u64 a, .int .u64 b, .int .u64 c, .int .u64 d] 2 .u64 c he hi rfl
  have h3 := hk4_part w e #[.int .u64 a, .int .u64 b, .int .u64 c, .int .u64 d] 3 .u64 d he hi rfl
  have hS : (sizeOf e).run P w = .ok 1 w := by
    cases hq : P.info? e with
    | none => simp [hq] at hi
    | some j => have hs : j.size = 1 := by simpa [hq] using hi
                simp [sizeOf, typeInfo, hq, hs]
  obtain ⟨m, hm⟩ : ∃ m : Nat, m = 9999 := ⟨_, rfl⟩
  have q : ∀ x : Int, (Op.equalIn m e (.int .u64 x) (.int .u64 x)).run P w = .ok true w := fun x => by rw [hm, run_equalIn_int w 9998 e .u64 .u64 x x he]; simp
  rw [show (10000 : Nat) = m + 1 by omega]
  clear hm
  simp only [Op.equalIn, Sem.run_bind, run_underlying ht, Result.andThen_ok, hS, Nat.mul_one]
  simp [Std.Legacy.Range.forIn_eq_forIn_range', Std.Legacy.Range.size, List.range', Sem.run_bind, h0, h1, h2, h3, q]
theorem hk4_eql {P : Program} (w : World) (t e : TypeId) (a b c d : Int) (ht : P.underlying t = some (.array 4 e)) (he : P.underlying e = some (.int .u64)) (hi : (P.info? e).map (·.size) = some 1) :
    (binOp .eql t (.agg #[.int .u64 a, .int .u64 b, .int .u64 c, .int .u64 d]) (.agg #[.int .u64 a, .int .u64 b, .int .u64 c, .int .u64 d])).run P w = .ok (.bool true) w := by
  rw [run_eql_struct w, hk4_eqIn w t e a b c d ht he hi]; rfl
theorem hk4_neq {P : Program} (w : World) (t e : TypeId) (a b c d : Int) (ht : P.underlying t = some (.array 4 e)) (he : P.underlying e = some (.int .u64)) (hi : (P.info? e).map (·.size) = some 1) :
    (binOp .neq t (.agg #[.int .u64 a, .int .u64 b, .int .u64 c, .int .u64 d]) (.agg #[.int .u64 a, .int .u64 b, .int .u64 c, .int .u64 d])).run P w = .ok (.bool false) w := by
  rw [run_neq_struct w, hk4_eqIn w t e a b c d ht he hi]; rfl
def abacistlaw10_awake.f (k : Nat) : Option Bool := (hk_crossO 1 0 0 0 5).bind fun y => if y = (1, 1, 1, 1) then (kern4_Unit.f k 0).bind fun u => if u = (281474976710656, 0) then some true else none else none
theorem hk_awake4 {k : Nat} {r : Bool} (h : abacistlaw10_awake.f k = some r) : hk_crossO 1 0 0 0 5 = some (1, 1, 1, 1) ∧ kern4_Unit.f k 0 = some (281474976710656, 0) ∧ r = true := by
  unfold abacistlaw10_awake.f at h
  obtain ⟨y, h1, h3⟩ := Option.bind_eq_some_iff.1 h
  by_cases c1 : y = (1, 1, 1, 1)
  · rw [if_pos c1] at h3
    obtain ⟨u, h2, h4⟩ := Option.bind_eq_some_iff.1 h3
    by_cases c2 : u = (281474976710656, 0)
    · rw [if_pos c2] at h4
      exact ⟨h1.trans (congrArg some c1), h2.trans (congrArg some c2), (Option.some.inj h4).symm⟩
    · rw [if_neg c2] at h4; cases h4
  · rw [if_neg c1] at h3; cases h3
set_option maxHeartbeats 8000000 in
set_option maxRecDepth 100000 in
theorem abacistlaw10_awake.calls (k : Nat) (r : Bool) (w : World) (h : abacistlaw10_awake.f k = some r) :
    Calls Tryd.prog 27 #[] w fun e w' => e = .returned (.bool r) ∧ Below w.heap.size w w' := by
  obtain ⟨h1, h2, rfl⟩ := hk_awake4 h
  have A1 := Aside0.mk h1
  have A2 := Aside0.mk h2
  clear h1 h2 h
  go_enter Tryd.func27, Tryd.ntmps27
  go_wp2_with (first | (go_at_call 48; (with_reducible refine (kern4_Cross.callsO 1 0 0 0 5 1 1 1 1 _ A1.out).mono ?_); rintro e w1 ⟨rfl, hb1⟩; have hb1 := Aside0.mk hb1))
  have BK := Aside0.mk (show (w1.alloc (.cells #[.int .u64 1, .int .u64 1, .int .u64 1, .int .u64 1] 67)).heap[w1.heap.size]? = some (.cells #[.int .u64 1, .int .u64 1, .int .u64 1, .int .u64 1] 67 (0,0)) from Array.getElem?_push_size)
  have HB := Aside0.mk (hb1.out.alloc hb1.out.size (.cells #[.int .u64 1, .int .u64 1, .int .u64 1, .int .u64 1] 67))
  have BZ := Aside0.mk (show w1.heap.size < (w1.alloc (.cells #[.int .u64 1, .int .u64 1, .int .u64 1, .int .u64 1] 67)).heap.size by simp)
  clear hb1
  obtain ⟨bb, hbb⟩ : ∃ b, b = w1.heap.size := ⟨_, rfl⟩
  rw [← hbb] at BK BZ ⊢
  clear hbb
  generalize w1.alloc (.cells #[.int .u64 1, .int .u64 1, .int .u64 1, .int .u64 1] 67) = W1 at BK HB BZ ⊢
  have hE : ∀ W, (binOp .eql 67 (.agg #[.int .u64 1, .int .u64 1, .int .u64 1, .int .u64 1]) (.agg #[.int .u64 1, .int .u64 1, .int .u64 1, .int .u64 1])).run Tryd.prog W = .ok (.bool true) W := fun W => hk4_eql W 67 32 1 1 1 1 Tryd.underlying67 Tryd.underlying32 (by kernel_rfl)
  (with_reducible refine (kern4_Unit.calls k 0 281474976710656 0 _ A2.out).mono ?_)
  rintro e w2 ⟨rfl, hb2⟩
  have BK2 := Aside0.mk ((hb2.block _ BZ.out).trans BK.out)
  have HB2 := Aside0.mk (HB.out.trans (hb2.mono HB.out.size))
  clear hb2 BK HB BZ
  go_wp2_with ((with_reducible refine wpList_load_row rfl 67 (.tmp 1) rfl bb rfl 67 _ (0, 0) _ BK2.out Tryd.underlying67 rfl (by kernel_rfl) ?_))
  go_ret
  exact ⟨rfl, HB2.out⟩

/-! ### kern4_whole: function 50 -/
def kern4_whole.l0 : Nat → List Int → List Int → Int → Int → Option (List Int)
  | 0, _, _, _, _ => none
  | k + 1, x7, x21, x22, x23 => if x23 < x22 then (if 0 ≤ x23 then (if x23 < (x21.length : Int) then ((gold_Neg.f (rd x21 x23)).bind fun t199 => (if x7.length < 17592186044416 then (kern4_whole.l0 k (x7 ++ [t199]) x21 x22 (wrap64 (x23 + 1))) else (none))) else (none)) else (none)) else (some x7)
def kern4_whole.f (k : Nat) (a0 : Int) (a1 : Int) : Option (List Int) := (twid_Table.f k a0 a1).bind fun bt188 => ((some (([] : List Int) : List Int)).bind fun y192 => (if y192.length + bt188.1.length < 17592186044416 then ((some (y192 ++ bt188.1 : List Int)).bind fun y195 => (if a0 > 0 then (kern4_whole.l0 k y195 bt188.1 (bt188.1.length : Int) 0) else (some y195))) else (none)))
theorem kern4_whole.mono_l : ∀ k, (∀ y0 y1 y2 y3, LeO (kern4_whole.l0 k y0 y1 y2 y3) (kern4_whole.l0 (k + 1) y0 y1 y2 y3))
  | 0 => fun _ _ _ _ r h => by simp [kern4_whole.l0] at h
  | k + 1 => by
    have ih0 := kern4_whole.mono_l k
    · intro y0 y1 y2 y3
      unfold kern4_whole.l0
      repeat' first
      | (with_reducible exact ih0 _ _ _ _)
      | (with_reducible exact twid_Table.mono _ _ _)
      | (with_reducible exact LeO.refl _)
      | (with_reducible exact LeO.none _)
      | (with_reducible refine LeO.ite ?_ ?_)
      | (with_reducible refine LeO.bind ?_ (fun _ => ?_))
      | exact ih0 _ _ _ _
      | exact twid_Table.mono _ _ _
      | exact LeO.none _
      | refine LeO.ite ?_ ?_
      | refine LeO.bind ?_ (fun _ => ?_)
theorem kern4_whole.mono : ∀ a0 a1 k, LeO (kern4_whole.f k a0 a1) (kern4_whole.f (k + 1) a0 a1) := by
  intro a0 a1 k
  have ih0 := kern4_whole.mono_l k
  unfold kern4_whole.f
  repeat' first
      | (with_reducible exact ih0 _ _ _ _)
      | (with_reducible exact twid_Table.mono _ _ _)
      | (with_reducible exact LeO.refl _)
      | (with_reducible exact LeO.none _)
      | (with_reducible refine LeO.ite ?_ ?_)
      | (with_reducible refine LeO.bind ?_ (fun _ => ?_))
      | exact ih0 _ _ _ _
      | exact twid_Table.mono _ _ _
      | exact LeO.none _
      | refine LeO.ite ?_ ?_
      | refine LeO.bind ?_ (fun _ => ?_)
set_option maxHeartbeats 80000000 in
set_option maxRecDepth 100000 in
theorem kern4_whole.calls (k : Nat) (a0 : Int) (a1 : Int) (r : List Int) (w : World) (h : kern4_whole.f k a0 a1 = some r) :
    Calls Tryd.prog 50 #[.int .i64 a0, .int .i64 a1] w fun e w' => ∃ v0_ : Value, e = .returned (v0_) ∧ Kd.R (Kd.int .u64) 32 w' w.heap.size (fun _ => True) v0_ r ∧ Below w.heap.size w w' := by
  have HB := Aside0.mk (Below.refl w.heap.size w)
  have H : ((twid_Table.f k a0 a1).bind fun bt188 => ((some (([] : List Int) : List Int)).bind fun y192 => (if y192.length + bt188.1.length < 17592186044416 then ((some (y192 ++ bt188.1 : List Int)).bind fun y195 => (if a0 > 0 then (kern4_whole.l0 k y195 bt188.1 (bt188.1.length : Int) 0) else (some y195))) else (none)))) = some r := h
  clear h
  replace H := Option.bind_eq_some_iff.mp H
  obtain ⟨⟨t188, t189⟩, A30, H⟩ := H
  replace H : ((some (([] : List Int) : List Int)).bind fun y192 => (if y192.length + t188.length < 17592186044416 then ((some (y192 ++ t188 : List Int)).bind fun y195 => (if a0 > 0 then (kern4_whole.l0 k y195 t188 (t188.length : Int) 0) else (some y195))) else (none))) = some r := H
  have A3 := Aside0.mk A30
  clear A30
  obtain ⟨y192, hy192⟩ : ∃ y_ : List Int, y_ = (([] : List Int)) := ⟨_, rfl⟩
  replace H : (if y192.length + t188.length < 17592186044416 then ((some (y192 ++ t188 : List Int)).bind fun y195 => (if a0 > 0 then (kern4_whole.l0 k y195 t188 (t188.length : Int) 0) else (some y195))) else (none)) = some r := by first | (rw [hy192]; with_reducible exact H) | (have H2_ := (Option.bind_some _ _).symm.trans H; rw [hy192]; with_reducible exact H2_) | (have H2_ := (Option.bind_some _ _).symm.trans H; with_reducible exact H2_) | with_reducible exact H | (rw [hy192]; exact H) | exact H
  have Ny192 := Aside0.mk hy192
  clear hy192
  by_cases c4 : y192.length + t188.length < 17592186044416
  · rw [if_pos c4] at H
    have LMc4 := Aside0.mk c4
    clear c4
    obtain ⟨y195, hy195⟩ : ∃ y_ : List Int, y_ = (y192 ++ t188) := ⟨_, rfl⟩
    replace H : (if a0 > 0 then (kern4_whole.l0 k y195 t188 (t188.length : Int) 0) else (some y195)) = some r := by first | (rw [hy195]; with_reducible exact H) | (have H2_ := (Option.bind_some _ _).symm.trans H; rw [hy195]; with_reducible exact H2_) | (have H2_ := (Option.bind_some _ _).symm.trans H; with_reducible exact H2_) | with_reducible exact H | (rw [hy195]; exact H) | exact H
    have Ny195 := Aside0.mk hy195
    clear hy195
    by_cases c5 : a0 > 0
    · rw [if_pos c5] at H
      have c5b0 : decide (0 < a0) = true := decide_eq_true c5
      clear c5
      have H' := Aside0.mk H
      clear H
      go_enter Tryd.func50, Tryd.ntmps50
      go_wp2_with (first | ((with_reducible refine gate_callee (f := 41) rfl ?_); refine goesL_ (some 13) rfl rfl Tryd.func41 (by kernel_rfl) rfl #[.int .i64 a0, .int .i64 a1] rfl (by (try simp only [List.map_toArray, List.map_cons, List.map_nil]); first | done | rfl | (simp only [List.length_drop, List.length_take]; rfl)) ?_; (with_reducible refine (twid_Table.calls k a0 a1 t188 t189 _ A3.out).mono ?_); rintro e w6 ⟨v190, rfl, ho0, hb⟩; refine ⟨_, rfl, ?_⟩; have n0_ := Aside0.mk (Kd.R_lower ho0 (below_size (by repeat (first | (with_reducible first | exact HB.out | apply below_alloc | apply pw_below_drewN | apply below_drew1) | exact HB.out)))); have n1_ := Aside0.mk (below_step (by repeat (first | (with_reducible first | exact HB.out | apply below_alloc | apply pw_below_drewN | apply below_drew1) | exact HB.out)) hb); clear HB; have HO191 := n0_; have HB := n1_; clear n0_ n1_; (try clear hb); (try clear hb2); (try clear hk); (try clear hi); (try clear ho0)) | (go_at_call 41; (with_reducible refine (twid_Table.calls k a0 a1 t188 t189 _ A3.out).mono ?_); rintro e w6 ⟨v190, rfl, ho0, hb⟩; have n0_ := Aside0.mk (Kd.R_lower ho0 (below_size (by repeat (first | (with_reducible first | exact HB.out | apply below_alloc | apply pw_below_drewN | apply below_drew1) | exact HB.out)))); have n1_ := Aside0.mk (below_step (by repeat (first | (with_reducible first | exact HB.out | apply below_alloc | apply pw_below_drewN | apply below_drew1) | exact HB.out)) hb); clear HB; have HO191 := n0_; have HB := n1_; clear n0_ n1_; (try clear hb); (try clear hb2); (try clear hk); (try clear hi); (try clear ho0)) | ((with_reducible refine gate_dst (N := 16) rfl ?_); refine Kd.R_lit (Kd.int .u64) _ 32 ?hg (N := 16) ?hd (xs := ([] : List Int)) (inner := []) (ok := fun _ => True) (okp := fun _ => True) ?hr ?hp (fun _ hk => hk) trivial (Below.refl _ _) (Nat.le_refl _) (by simp) ?_; (case hd => rfl); (case hg => rfl); (case hr => first | (go_simp; done) | (go_simp; rfl)); (case hp => exact (Reps.none _ _)); intro v193 w7 ho8 hb hg_ hnew_; clear hg_ hnew_; (first | rw [← Ny192.out] at ho8 | (simp only [Int.reduceToNat] at ho8; rw [← Ny192.out] at ho8)); have n0_ := Aside0.mk (Kd.R_elder' (by (with_reducible repeat (first | apply Kd.R_alloc | apply Kd.R_drewN | apply Kd.R_drew)); exact HO191.out) (Kd.R_base ho8) hb); have n1_ := Aside0.mk (Kd.R_lower (Kd.R_new' ho8 (Kd.R_lt (by (with_reducible repeat (first | apply Kd.R_alloc | apply Kd.R_drewN | apply Kd.R_drew)); exact HO191.out))) (below_size (by repeat (first | (with_reducible first | exact HB.out | apply below_alloc | apply pw_below_drewN | apply below_drew1) | exact HB.out)))); have n2_ := Aside0.mk (below_step (by repeat (first | (with_reducible first | exact HB.out | apply below_alloc | apply pw_below_drewN | apply below_drew1) | exact HB.out)) hb); clear HO191; clear HB; have HO191 := n0_; have HO194 := n1_; have HB := n2_; clear n0_ n1_ n2_; clear hb ho8; obtain ⟨Ao10, co10, eo10⟩ := Kd.R_slice HO191.out; subst eo10) | ((with_reducible refine gate_builtin (b := .append) (xs := #[.tmp 16, .tmp 17]) rfl ?_); at_builtin; refine Kd.R_append_rows (Kd.int .u64) (w0 := w) w.heap.size rfl (.tmp 16) (.tmp 17) 22 32 (.int .u64 0) 8 rfl Tryd.underlying22 info32 rfl (by decide) (by omega) v193 y192 t188 _ _ _ (fun k_ => some k_ ≠ (.slice Ao10 t188.length co10 : Value).ownBlock) (fun _ => False) rfl rfl ?aO ?aR (fun _ _ h => h) (fun _ h => h.elim) ?aF ?aB ?aS ?aL ?_; (case aR => repeat (first | exact (Kd.R_reads' HO191.out).2.2 | (with_reducible refine Kd.C_alloc ?_ _) | (with_reducible refine Kd.C_drewN ?_ _) | (with_reducible refine Kd.C_drew ?_))); (case aB => exact (by repeat (first | (with_reducible first | exact HB.out | apply below_alloc | apply pw_below_drewN | apply below_drew1) | exact HB.out))); (case aF => exact (fun k_ hk => Kd.fresh' (Kd.R_lt (by (with_reducible repeat (first | apply Kd.R_alloc | apply Kd.R_drewN | apply Kd.R_drew)); exact HO191.out)) k_ hk)); (case aO => exact (by (with_reducible repeat (first | apply Kd.R_alloc | apply Kd.R_drewN | apply Kd.R_drew)); exact Kd.R_mono HO194.out (fun _ hk => hk.2))); (case aS => exact (below_size (by repeat (first | (with_reducible first | exact HB.out | apply below_alloc | apply pw_below_drewN | apply below_drew1) | exact HB.out)))); (case aL => have := LMc4.out; omega); intro v196 w9 ho hb hg hat; rw [← Ny195.out] at ho; have n0_ := Aside0.mk (Kd.R_after (ok := (fun _ => True)) (by (with_reducible repeat (first | apply Kd.R_alloc | apply Kd.R_drewN | apply Kd.R_drew)); exact HO191.out) hg hat); have n1_ := Aside0.mk (hb); have n2_ := Aside0.mk (ho); clear HO191; clear HB; clear HO194; have HO191 := n0_; have HB := n1_; have HO197 := n2_; clear n0_ n1_ n2_; clear ho hb hg hat))
      go_loopg [7, 23] k (fun kq v7 v23 w' => ∃ (x7_1 : List Int) (x23_1 : Int), v23 = .int .i64 x23_1 ∧ Aside0 (kern4_whole.l0 kq x7_1 t188 (t188.length : Int) x23_1 = some r) ∧ Aside0 (kq ≤ k) ∧ Aside0 (Kd.R (Kd.int .u64) 32 w' w.heap.size (fun k_ => some k_ ≠ ((.slice Ao10 t188.length co10) : Value).ownBlock) v7 x7_1) ∧ Aside0 (Kd.R (Kd.int .u64) 32 w' w.heap.size (fun k_ => some k_ ≠ (v7 : Value).ownBlock) (.slice Ao10 t188.length co10) t188) ∧ Aside0 (Below w.heap.size w w'))
      case atStart => exact ⟨(y195), (0), (by first | rfl | (simp; done) | (simp [*]; done)), H', ⟨Nat.le_refl _⟩, ⟨by (with_reducible repeat (first | apply Kd.R_alloc | apply Kd.R_drewN | apply Kd.R_drew)); exact HO197.out⟩, ⟨by (with_reducible repeat (first | apply Kd.R_alloc | apply Kd.R_drewN | apply Kd.R_drew)); exact Kd.R_mono HO191.out (fun _ hk => hk.2)⟩, ⟨by repeat (first | (with_reducible first | exact HB.out | apply below_alloc | apply pw_below_drewN | apply below_drew1) | exact HB.out)⟩⟩
      case round =>
        clear H'
        try clear p2
        try clear c4
        try clear c5
        try clear c5b0
        obtain ⟨x7_1, x23_1, rfl, HA, HK1, HO_7, HO_21, HB⟩ := hrel
        cases gk with
        | zero => exact absurd HA.out (by simp [kern4_whole.l0])
        | succ k1 =>
          have H := HA.out
          clear HA
          simp only [kern4_whole.l0] at H
          by_cases c11 : x23_1 < (t188.length : Int)
          · rw [if_pos c11] at H
            have c11b0 : decide (x23_1 < (t188.length : Int)) = true := decide_eq_true c11
            clear c11
            by_cases c12 : 0 ≤ x23_1
            · rw [if_pos c12] at H
              have c12b0 : decide (0 ≤ x23_1) = true := decide_eq_true c12
              clear c12
              by_cases c13 : x23_1 < (t188.length : Int)
              · rw [if_pos c13] at H
                have c13b0 : decide (x23_1 < (t188.length : Int)) = true := decide_eq_true c13
                clear c13
                replace H := Option.bind_eq_some_iff.mp H
                obtain ⟨t199, A140, H⟩ := H
                replace H : (if x7_1.length < 17592186044416 then (kern4_whole.l0 k1 (x7_1 ++ [t199]) t188 (t188.length : Int) (wrap64 (x23_1 + 1))) else (none)) = some r := H
                have A14 := Aside0.mk A140
                clear A140
                by_cases c15 : x7_1.length < 17592186044416
                · rw [if_pos c15] at H
                  have LMc15 := Aside0.mk c15
                  clear c15
                  obtain ⟨y200, hy200⟩ : ∃ y_ : List Int, y_ = (x7_1 ++ [t199]) := ⟨_, rfl⟩
                  replace H : (kern4_whole.l0 k1 y200 t188 (t188.length : Int) (wrap64 (x23_1 + 1))) = some r := by first | (rw [hy200]; with_reducible exact H) | (have H2_ := (Option.bind_some _ _).symm.trans H; rw [hy200]; with_reducible exact H2_) | (have H2_ := (Option.bind_some _ _).symm.trans H; with_reducible exact H2_) | with_reducible exact H | (rw [hy200]; exact H) | exact H
                  have Ny200 := Aside0.mk hy200
                  clear hy200
                  have H' := Aside0.mk H
                  clear H
                  have p198 : 0 ≤ (x23_1 : Int) := of_decide_eq_true (by first | (with_reducible assumption) | assumption)
                  have q198 : x23_1 < (t188.length : Int) := of_decide_eq_true (by first | (with_reducible assumption) | assumption)
                  (try (first | (have hq_ := Kd.R_reads' HO_21.out; clear hq_) | (obtain ⟨AoQ198, coQ198, eoQ198⟩ := Kd.R_slice HO_21.out; subst eoQ198)))
                  obtain ⟨ad198, e198, hx198_0⟩ := Kd.at_int (Kd.R_reads' HO_21.out).2.2 x23_1 p198 q198
                  cases e198
                  replace p198 := eq_true p198
                  replace q198 := eq_true q198
                  go_wp2_with (first | ((with_reducible refine gate_callee (f := 56) rfl ?_); refine goesL_ (some 29) rfl rfl Tryd.func56 (by kernel_rfl) rfl #[.int .u64 (rd t188 x23_1)] rfl (by (try simp only [List.map_toArray, List.map_cons, List.map_nil]); first | done | rfl | (simp only [List.length_drop, List.length_take]; rfl)) ?_; (with_reducible refine (gold_Neg.calls (rd t188 x23_1) t199 _ A14.out).mono ?_); rintro e w' ⟨rfl, ⟨nd, rfl⟩⟩; refine ⟨_, rfl, ?_⟩) | (go_at_call 56; (with_reducible refine (gold_Neg.calls (rd t188 x23_1) t199 _ A14.out).mono ?_); rintro e w' ⟨rfl, ⟨nd, rfl⟩⟩) | ((with_reducible refine gate_builtin (b := .append) (xs := #[.tmp 27, .tmp 30]) rfl ?_); at_builtin; refine Kd.R_append (Kd.int .u64) (w0 := w) w.heap.size rfl (.tmp 27) (.tmp 30) 22 32 (.int .u64 0) 8 rfl Tryd.underlying22 info32 rfl (by decide) (by omega) u7 x7_1 t199 [.int .u64 t199] (fun k_ => some k_ ≠ (.slice (some ad198) t188.length co10 : Value).ownBlock) (fun _ => False) rfl rfl ?aP (fun _ hk => hk.elim) ?aF ?aO ?aB ?aS ?aL ?_; (case aP => exact rfl); (case aB => exact (by repeat (first | (with_reducible first | exact HB.out | apply below_alloc | apply pw_below_drewN | apply below_drew1) | exact HB.out))); (case aF => exact (fun k_ hk => Kd.fresh' (Kd.R_lt (by (with_reducible repeat (first | apply Kd.R_alloc | apply Kd.R_drewN | apply Kd.R_drew)); exact HO_21.out)) k_ hk)); (case aO => exact (by (with_reducible repeat (first | apply Kd.R_alloc | apply Kd.R_drewN | apply Kd.R_drew)); exact HO_7.out)); (case aS => exact (below_size (by repeat (first | (with_reducible first | exact HB.out | apply below_alloc | apply pw_below_drewN | apply below_drew1) | exact HB.out)))); (case aL => have := LMc15.out; omega); intro v201 w16 ho hb hg hat; rw [← Ny200.out] at ho; have n0_ := Aside0.mk (Kd.R_after (ok := (fun _ => True)) (by (with_reducible repeat (first | apply Kd.R_alloc | apply Kd.R_drewN | apply Kd.R_drew)); exact Kd.R_mono HO_21.out (fun _ hk => ⟨trivial, hk⟩)) hg hat); have n1_ := Aside0.mk (hb); have n2_ := Aside0.mk (ho); clear HO_21; clear HB; clear HO_7; have HO_21 := n0_; have HB := n1_; have HO202 := n2_; clear n0_ n1_ n2_; clear ho hb hg hat))
                  (first | go_roundg k1 | (simp only [add_plain] at *; go_roundg k1))
                  case measure => have := HK1.out; omega
                  case rel => exact ⟨(y200), (wrap64 (x23_1 + 1)), (by first | rfl | (simp; done) | (simp [*]; done)), H', ⟨by have := HK1.out; omega⟩, ⟨by (with_reducible repeat (first | apply Kd.R_alloc | apply Kd.R_drewN | apply Kd.R_drew)); exact HO202.out⟩, ⟨by (with_reducible repeat (first | apply Kd.R_alloc | apply Kd.R_drewN | apply Kd.R_drew)); exact Kd.R_mono HO_21.out (fun _ hk => hk.2)⟩, ⟨by repeat (first | (with_reducible first | exact HB.out | apply below_alloc | apply pw_below_drewN | apply below_drew1) | exact HB.out)⟩⟩
                · rw [if_neg c15] at H
                  exact absurd H (by simp)
              · rw [if_neg c13] at H
                exact absurd H (by simp)
            · rw [if_neg c12] at H
              exact absurd H (by simp)
          · rw [if_neg c11] at H
            have c11b0 : decide (x23_1 < (t188.length : Int)) = false := decide_eq_false c11
            clear c11
            obtain rfl := Option.some.inj H
            go_wp2
            go_ret
            exact ⟨_, by first | rfl | (simp [errW_none, errW_some] <;> rfl) | (simp [*, errW_none, errW_some] <;> rfl), by (with_reducible repeat (first | apply Kd.R_alloc | apply Kd.R_drewN | apply Kd.R_drew)); exact Kd.R_mono HO_7.out (fun _ hk => trivial), by repeat (first | (with_reducible first | exact HB.out | apply below_alloc | apply pw_below_drewN | apply below_drew1) | exact HB.out)⟩
    · rw [if_neg c5] at H
      have c5b0 : decide (0 < a0) = false := decide_eq_false c5
      clear c5
      obtain rfl := Option.some.inj H
      go_enter Tryd.func50, Tryd.ntmps50
      go_wp2_with (first | ((with_reducible refine gate_callee (f := 41) rfl ?_); refine goesL_ (some 13) rfl rfl Tryd.func41 (by kernel_rfl) rfl #[.int .i64 a0, .int .i64 a1] rfl (by (try simp only [List.map_toArray, List.map_cons, List.map_nil]); first | done | rfl | (simp only [List.length_drop, List.length_take]; rfl)) ?_; (with_reducible refine (twid_Table.calls k a0 a1 t188 t189 _ A3.out).mono ?_); rintro e w17 ⟨v190, rfl, ho0, hb⟩; refine ⟨_, rfl, ?_⟩; have n0_ := Aside0.mk (Kd.R_lower ho0 (below_size (by repeat (first | (with_reducible first | exact HB.out | apply below_alloc | apply pw_below_drewN | apply below_drew1) | exact HB.out)))); have n1_ := Aside0.mk (below_step (by repeat (first | (with_reducible first | exact HB.out | apply below_alloc | apply pw_below_drewN | apply below_drew1) | exact HB.out)) hb); clear HB; have HO191 := n0_; have HB := n1_; clear n0_ n1_; (try clear hb); (try clear hb2); (try clear hk); (try clear hi); (try clear ho0)) | (go_at_call 41; (with_reducible refine (twid_Table.calls k a0 a1 t188 t189 _ A3.out).mono ?_); rintro e w17 ⟨v190, rfl, ho0, hb⟩; have n0_ := Aside0.mk (Kd.R_lower ho0 (below_size (by repeat (first | (with_reducible first | exact HB.out | apply below_alloc | apply pw_below_drewN | apply below_drew1) | exact HB.out)))); have n1_ := Aside0.mk (below_step (by repeat (first | (with_reducible first | exact HB.out | apply below_alloc | apply pw_below_drewN | apply below_drew1) | exact HB.out)) hb); clear HB; have HO191 := n0_; have HB := n1_; clear n0_ n1_; (try clear hb); (try clear hb2); (try clear hk); (try clear hi); (try clear ho0)) | ((with_reducible refine gate_dst (N := 16) rfl ?_); refine Kd.R_lit (Kd.int .u64) _ 32 ?hg (N := 16) ?hd (xs := ([] : List Int)) (inner := []) (ok := fun _ => True) (okp := fun _ => True) ?hr ?hp (fun _ hk => hk) trivial (Below.refl _ _) (Nat.le_refl _) (by simp) ?_; (case hd => rfl); (case hg => rfl); (case hr => first | (go_simp; done) | (go_simp; rfl)); (case hp => exact (Reps.none _ _)); intro v193 w18 ho19 hb hg_ hnew_; clear hg_ hnew_; (first | rw [← Ny192.out] at ho19 | (simp only [Int.reduceToNat] at ho19; rw [← Ny192.out] at ho19)); have n0_ := Aside0.mk (Kd.R_elder' (by (with_reducible repeat (first | apply Kd.R_alloc | apply Kd.R_drewN | apply Kd.R_drew)); exact HO191.out) (Kd.R_base ho19) hb); have n1_ := Aside0.mk (Kd.R_lower (Kd.R_new' ho19 (Kd.R_lt (by (with_reducible repeat (first | apply Kd.R_alloc | apply Kd.R_drewN | apply Kd.R_drew)); exact HO191.out))) (below_size (by repeat (first | (with_reducible first | exact HB.out | apply below_alloc | apply pw_below_drewN | apply below_drew1) | exact HB.out)))); have n2_ := Aside0.mk (below_step (by repeat (first | (with_reducible first | exact HB.out | apply below_alloc | apply pw_below_drewN | apply below_drew1) | exact HB.out)) hb); clear HO191; clear HB; have HO191 := n0_; have HO194 := n1_; have HB := n2_; clear n0_ n1_ n2_; clear hb ho19; obtain ⟨Ao21, co21, eo21⟩ := Kd.R_slice HO191.out; subst eo21) | ((with_reducible refine gate_builtin (b := .append) (xs := #[.tmp 16, .tmp 17]) rfl ?_); at_builtin; refine Kd.R_append_rows (Kd.int .u64) (w0 := w) w.heap.size rfl (.tmp 16) (.tmp 17) 22 32 (.int .u64 0) 8 rfl Tryd.underlying22 info32 rfl (by decide) (by omega) v193 y192 t188 _ _ _ (fun k_ => some k_ ≠ (.slice Ao21 t188.length co21 : Value).ownBlock) (fun _ => False) rfl rfl ?aO ?aR (fun _ _ h => h) (fun _ h => h.elim) ?aF ?aB ?aS ?aL ?_; (case aR => repeat (first | exact (Kd.R_reads' HO191.out).2.2 | (with_reducible refine Kd.C_alloc ?_ _) | (with_reducible refine Kd.C_drewN ?_ _) | (with_reducible refine Kd.C_drew ?_))); (case aB => exact (by repeat (first | (with_reducible first | exact HB.out | apply below_alloc | apply pw_below_drewN | apply below_drew1) | exact HB.out))); (case aF => exact (fun k_ hk => Kd.fresh' (Kd.R_lt (by (with_reducible repeat (first | apply Kd.R_alloc | apply Kd.R_drewN | apply Kd.R_drew)); exact HO191.out)) k_ hk)); (case aO => exact (by (with_reducible repeat (first | apply Kd.R_alloc | apply Kd.R_drewN | apply Kd.R_drew)); exact Kd.R_mono HO194.out (fun _ hk => hk.2))); (case aS => exact (below_size (by repeat (first | (with_reducible first | exact HB.out | apply below_alloc | apply pw_below_drewN | apply below_drew1) | exact HB.out)))); (case aL => have := LMc4.out; omega); intro v196 w20 ho hb hg hat; rw [← Ny195.out] at ho; have n0_ := Aside0.mk (Kd.R_after (ok := (fun _ => True)) (by (with_reducible repeat (first | apply Kd.R_alloc | apply Kd.R_drewN | apply Kd.R_drew)); exact HO191.out) hg hat); have n1_ := Aside0.mk (hb); have n2_ := Aside0.mk (ho); clear HO191; clear HB; clear HO194; have HO191 := n0_; have HB := n1_; have HO197 := n2_; clear n0_ n1_ n2_; clear ho hb hg hat))
      go_ret
      exact ⟨_, by first | rfl | (simp [errW_none, errW_some] <;> rfl) | (simp [*, errW_none, errW_some] <;> rfl), by (with_reducible repeat (first | apply Kd.R_alloc | apply Kd.R_drewN | apply Kd.R_drew)); exact Kd.R_mono HO197.out (fun _ hk => trivial), by repeat (first | (with_reducible first | exact HB.out | apply below_alloc | apply pw_below_drewN | apply below_drew1) | exact HB.out)⟩
  · rw [if_neg c4] at H
    exact absurd H (by simp)

end Go.Proofs.YtggmpdmlbjllhaaDoor.PQuartersAlike
