-- Written for this claim by wip/gen/mk.sh, this session's own driver over the kit's print
import Derived.Test.YtaiahgnkgbfcfaaDoorPNaturalTextsx0
namespace Go.Proofs.YtaiahgnkgbfcfaaDoor.PNaturalTexts
open Go.RowKit Go.Proofs.YtaiahgnkgbfcfaaDoorW.PrintWords Go.Proofs.YtaiahgnkgbfcfaaDoorW.PrintLast Go.Proofs.YtaiahgnkgbfcfaaDoorW.PrintMore
attribute [local go_sem] max2_int min2_int max_two min_two max_three min_three max_four min_four   -- for this text's walks alone
set_option linter.unusedVariables false
set_option linter.unusedSimpArgs false

/-! ### utf8_ValidRune: function 53 -/
def utf8_ValidRune.j0 : Nat → Int → Bool → Option (Bool)
  | 0, _, _ => none
  | k + 1, x0, x3 => if x3 = true then (some true) else (if 57343 < x0 then (if x0 ≤ 1114111 then (some true) else (some false)) else (some false))
def utf8_ValidRune.f (k : Nat) (a0 : Int) : Option (Bool) := if 0 ≤ a0 then (utf8_ValidRune.j0 k a0 (decide (a0 < 55296))) else (utf8_ValidRune.j0 k a0 false)
theorem utf8_ValidRune.mono_l : ∀ k, (∀ y0 y1, LeO (utf8_ValidRune.j0 k y0 y1) (utf8_ValidRune.j0 (k + 1) y0 y1))
  | 0 => fun _ _ r h => by simp [utf8_ValidRune.j0] at h
  | k + 1 => by
    have ih0 := utf8_ValidRune.mono_l k
    · intro y0 y1
      unfold utf8_ValidRune.j0
      repeat' first
      | (with_reducible exact ih0 _ _)
      | (with_reducible exact LeO.refl _)
      | (with_reducible exact LeO.none _)
      | (with_reducible refine LeO.ite ?_ ?_)
      | (with_reducible refine LeO.bind ?_ (fun _ => ?_))
      | exact ih0 _ _
      | exact LeO.none _
      | refine LeO.ite ?_ ?_
      | refine LeO.bind ?_ (fun _ => ?_)
theorem utf8_ValidRune.mono : ∀ a0 k, LeO (utf8_ValidRune.f k a0) (utf8_ValidRune.f (k + 1) a0) := by
  intro a0 k
  have ih0 := utf8_ValidRune.mono_l k
  unfold utf8_ValidRune.f
  repeat' first
      | (with_reducible exact ih0 _ _)
      | (with_reducible exact LeO.refl _)
      | (with_reducible exact LeO.none _)
      | (with_reducible refine LeO.ite ?_ ?_)
      | (with_reducible refine LeO.bind ?_ (fun _ => ?_))
      | exact ih0 _ _
      | exact LeO.none _
      | refine LeO.ite ?_ ?_
      | refine LeO.bind ?_ (fun _ => ?_)
set_option maxHeartbeats 8000000 in
set_option maxRecDepth 100000 in
theorem utf8_ValidRune.calls (k : Nat) (a0 : Int) (r : Bool) (w : World) (h : utf8_ValidRune.f k a0 = some r) :
    Calls Tryd.prog 53 #[.int .i32 a0] w fun e w' => e = .returned (.bool r) ∧ Drawn0 w w' := by
  have H : (if 0 ≤ a0 then (utf8_ValidRune.j0 k a0 (decide (a0 < 55296))) else (utf8_ValidRune.j0 k a0 false)) = some r := h
  clear h
  have HC2 := Aside0.mk H
  clear H
  go_enter Tryd.func53, Tryd.ntmps53
  go_upto_region 1 with (fail)
  go_cut [3] (fun v3 wc => ∃ (kq : Nat) (x3_1 : Bool), v3 = .bool x3_1 ∧ Aside0 (utf8_ValidRune.j0 kq a0 x3_1 = some r) ∧ Aside0 (kq ≤ k) ∧ Drawn0 w wc)
  case first =>
    have H := HC2.out
    clear HC2
    by_cases c3 : 0 ≤ a0
    · rw [if_pos c3] at H
      have c3b0 : decide (0 ≤ a0) = true := decide_eq_true c3
      clear c3
      (first | rw [c3b0] | (simp only [i64_w, i32_w]; rw [c3b0]) | skip)
      have H' := Aside0.mk H
      clear H
      go_wp2
      go_meet
      case rel => exact ⟨_, (decide (a0 < 55296)), (by first | rfl | (simp; done) | (simp [*]; done)), H', ⟨by first | omega | exact Nat.le_refl _⟩, by repeat (first | exact Drawn0.refl _ | apply Drawn0.step)⟩
    · rw [if_neg c3] at H
      have c3b0 : decide (0 ≤ a0) = false := decide_eq_false c3
      clear c3
      (first | rw [c3b0] | (simp only [i64_w, i32_w]; rw [c3b0]) | skip)
      have H' := Aside0.mk H
      clear H
      go_wp2
      go_meet
      case rel => exact ⟨_, (false), (by first | rfl | (simp; done) | (simp [*]; done)), H', ⟨by first | omega | exact Nat.le_refl _⟩, by repeat (first | exact Drawn0.refl _ | apply Drawn0.step)⟩
  case rest =>
    clear HC2
    try clear p2
    try clear c3
    try clear c3b0
    obtain ⟨kq, x3_1, rfl, HA, HJ1, ⟨mc1, rfl⟩⟩ := hcut
    cases kq with
    | zero => exact absurd HA.out (by simp [utf8_ValidRune.j0])
    | succ kj1 =>
      have H := HA.out
      clear HA
      simp only [utf8_ValidRune.j0] at H
      by_cases c4 : x3_1 = true
      · subst c4
        have H1 : (some true) = some r := by rw [if_pos rfl] at H; exact H
        clear H
        have H := H1
        clear H1
        obtain rfl := Option.some.inj H
        go_wp2
        go_ret
        exact ⟨by first | rfl | (simp; done) | (simp [*]; done), by repeat (first | exact Drawn0.refl _ | apply Drawn0.step)⟩
      · replace c4 := Bool.eq_false_iff.mpr c4
        subst c4
        have H1 : (if 57343 < a0 then (if a0 ≤ 1114111 then (some true) else (some false)) else (some false)) = some r := by rw [if_neg (show ¬ (false = true) by decide)] at H; exact H
        clear H
        have H := H1
        clear H1
        by_cases c5 : 57343 < a0
        · rw [if_pos c5] at H
          have c5b0 : decide (57343 < a0) = true := decide_eq_true c5
          clear c5
          by_cases c6 : a0 ≤ 1114111
          · rw [if_pos c6] at H
            have c6b0 : decide (a0 ≤ 1114111) = true := decide_eq_true c6
            clear c6
            obtain rfl := Option.some.inj H
            go_wp2
            go_ret
            exact ⟨by first | rfl | (simp; done) | (simp [*]; done), by repeat (first | exact Drawn0.refl _ | apply Drawn0.step)⟩
          · rw [if_neg c6] at H
            have c6b0 : decide (a0 ≤ 1114111) = false := decide_eq_false c6
            clear c6
            obtain rfl := Option.some.inj H
            go_wp2
            go_ret
            exact ⟨by first | rfl | (simp; done) | (simp [*]; done), by repeat (first | exact Drawn0.refl _ | apply Drawn0.step)⟩
        · rw [if_neg c5] at H
          have c5b0 : decide (57343 < a0) = false := decide_eq_false c5
          clear c5
          obtain rfl := Option.some.inj H
          go_wp2
          go_ret
          exact ⟨by first | rfl | (simp; done) | (simp [*]; done), by repeat (first | exact Drawn0.refl _ | apply Drawn0.step)⟩

/-! ### bytealg_Cutover: function 54 -/
def bytealg_Cutover.f (a0 : Int) : Option (Int) := some (wrap64 (Int.tdiv (wrap64 (a0 + 16)) 8))
set_option maxHeartbeats 8000000 in
set_option maxRecDepth 100000 in
theorem bytealg_Cutover.calls (a0 : Int) (r : Int) (w : World) (h : bytealg_Cutover.f a0 = some r) :
    Calls Tryd.prog 54 #[.int .i64 a0] w fun e w' => e = .returned (.int .i64 r) ∧ Drawn0 w w' := by
  have H : (some (wrap64 (Int.tdiv (wrap64 (a0 + 16)) 8))) = some r := h
  clear h
  obtain rfl := Option.some.inj H
  go_enter Tryd.func54, Tryd.ntmps54
  go_wp2
  go_ret
  exact ⟨by first | rfl | (simp; done) | (simp [*]; done), by repeat (first | exact Drawn0.refl _ | apply Drawn0.step)⟩

-- NOT PRINTED: function 55 (bytealg_IndexString)

-- NOT PRINTED: function 46 (strings_IndexRune)

-- NOT PRINTED: function 42 (strings_ContainsRune)

-- NOT PRINTED: function 29 (strings_trimLeftUnicode)

/-! ### utf8_RuneStart: function 47 -/
def utf8_RuneStart.f (a0 : Int) : Option (Bool) := some ((Go.bits .and .u8 a0 192) != 128)
set_option maxHeartbeats 8000000 in
set_option maxRecDepth 100000 in
theorem utf8_RuneStart.calls (a0 : Int) (r : Bool) (w : World) (h : utf8_RuneStart.f a0 = some r) :
    Calls Tryd.prog 47 #[.int .u8 a0] w fun e w' => e = .returned (.bool r) ∧ Drawn0 w w' := by
  have H : (some ((Go.bits .and .u8 a0 192) != 128)) = some r := h
  clear h
  obtain rfl := Option.some.inj H
  go_enter Tryd.func47, Tryd.ntmps47
  go_wp2
  go_ret
  exact ⟨by first | rfl | (simp; done) | (simp [*]; done), by repeat (first | exact Drawn0.refl _ | apply Drawn0.step)⟩

-- NOT PRINTED: function 43 (utf8_DecodeLastRuneInString)

-- NOT PRINTED: function 30 (strings_trimRightUnicode)

/-! ### strings_Trim: function 14 (by hand) -/
open Go.Shelf in
shelf_lay Lays.n227 Nm 227 at Tryd as hk_lays227
open Go.Shelf in
shelf_lay Lays.n228 Nm 228 at Tryd as hk_lays228
theorem hk_mk (w : World) : Calls Tryd.prog 26 #[.string ⟨#[48, 49, 50, 51, 52, 53, 54, 55, 56, 57]⟩] w fun e w' => e = .returned (.tuple #[.agg (Lib.setCells [48, 49, 50, 51, 52, 53, 54, 55, 56, 57]), .bool true]) ∧ w' = w.alloc (.cells (Lib.setCells [48, 49, 50, 51, 52, 53, 54, 55, 56, 57]) 51) := by
  have hZ := zero_of_info (P := Tryd.prog) (t := 51) (v := .agg (Array.replicate 256 (.bool false))) (n := 256) (by kernel_rfl)
  have hcon := Any.strings_makeASCIISet hk_lays227 hZ.1 hZ.2 ⟨#[48, 49, 50, 51, 52, 53, 54, 55, 56, 57]⟩ w (by decide) (fun j b hb => of_decide_eq_true (List.all_eq_true.1 (show ([48, 49, 50, 51, 52, 53, 54, 55, 56, 57] : List UInt8).all (fun b => decide (b.toNat < 128)) = true by decide) b (List.mem_of_getElem? hb)))
  exact hcon
theorem hk_as (b : Nat) (x : UInt8) (v : Bool) (w : World) (hc : w.cell? ⟨b, x.toNat, none⟩ = some (.bool v)) :
    Calls Tryd.prog 40 #[.pointer (some ⟨b, 0, none⟩), .int .u8 x.toNat] w fun e w' => e = .returned (.bool v) ∧ w' = w :=
  Any.asciiSet_contains hk_lays228 b x v w hc
theorem hk_tsz (x : UInt8) (l : List UInt8) : (⟨(x :: l).toArray⟩ : ByteArray).size = l.length + 1 := by rw [Lib.size_mk]; rfl
theorem hk_tex (x : UInt8) (l : List UInt8) : (⟨(x :: l).toArray⟩ : ByteArray).extract 1 (l.length + 1) = ⟨l.toArray⟩ := by
  rw [Lib.extract_mk]; congr 2; simp
theorem hk_rsz (x : UInt8) (l : List UInt8) : (⟨(l ++ [x]).toArray⟩ : ByteArray).size = l.length + 1 := by rw [Lib.size_mk]; simp
theorem hk_rex (x : UInt8) (l : List UInt8) : (⟨(l ++ [x]).toArray⟩ : ByteArray).extract 0 l.length = ⟨l.toArray⟩ := by
  rw [Lib.extract_mk]; congr 2; simp
theorem hk_rat (x : UInt8) (l : List UInt8) (h : l.length < (⟨(l ++ [x]).toArray⟩ : ByteArray).size) : (⟨(l ++ [x]).toArray⟩ : ByteArray)[l.length]'h = x := by
  have := Lib.getElem_mk (l ++ [x]) l.length h
  rw [List.getElem?_append_right (Nat.le_refl _)] at this
  simpa using this.symm
set_option maxHeartbeats 2000000 in
set_option maxRecDepth 100000 in
theorem hk_tlA (b : Nat) (cs : List UInt8) (l : List UInt8) (w : World) (hset : ∀ x : UInt8, w.cell? ⟨b, x.toNat, none⟩ = some (.bool (cs.contains x))) :
    Calls Tryd.prog 27 #[.string ⟨l.toArray⟩, .pointer (some ⟨b, 0, none⟩)] w fun e w' => e = .returned (.string ⟨(Lib.trimLeftS l cs).toArray⟩) ∧ Drawn0 w w' := by
  have HS := Aside0.mk hset
  clear hset
  go_enter Tryd.func27, Tryd.ntmps27
  go_wp2
  go_loopg [0] (l.length) (fun kq v0 w' => ∃ m : List UInt8, v0 = .string ⟨m.toArray⟩ ∧ Aside0 (m.length = kq) ∧ Aside0 (Lib.trimLeftS m cs = Lib.trimLeftS l cs) ∧ Aside0 (Drawn0 w w'))
  case atStart => exact ⟨l, rfl, ⟨rfl⟩, ⟨rfl⟩, ⟨by repeat (first | exact Drawn0.refl _ | apply Drawn0.step)⟩⟩
  case round =>
    obtain ⟨m, rfl, HM, HT, HD⟩ := hrel
    cases m with
    | nil =>
      have hz : (⟨([] : List UInt8).toArray⟩ : ByteArray).size = 0 := rfl
      have hzz : decide (0 < (0 : Int)) = false := rfl
      go_wp2
      go_ret
      exact ⟨by rw [← HT.out]; rfl, by repeat (first | exact HD.out | apply Drawn0.step)⟩
    | cons x m =>
      obtain ⟨k1, rfl⟩ : ∃ k1, gk = k1 + 1 := ⟨m.length, by have := HM.out; simpa using this.symm⟩
      have hz := hk_tsz x m
      have hx := hk_tex x m
      have hcx := (HD.out.below.cell (World.block_lt_of_cell? w _ (HS.out x))).trans (HS.out x)
      have h0 : ∀ h, (⟨(x :: m).toArray⟩ : ByteArray)[0]'h = x := fun h => rfl
      have HX := Aside0.mk (show Lib.trimLeftS (x :: m) cs = if cs.contains x then Lib.trimLeftS m cs else x :: m by unfold Lib.trimLeftS; rw [List.dropWhile_cons])
      have HM2 : Aside0 (m.length = k1) := ⟨by have := HM.out; simpa using this⟩
      clear HM
      generalize hT : (⟨(x :: m).toArray⟩ : ByteArray) = T at hz hx h0 ⊢
      have HTT := Aside0.mk hT
      clear hT
      cases hin : cs.contains x with
      | false =>
        rw [hin] at hcx
        have HC := Aside0.mk hcx
        have HI := Aside0.mk hin
        clear hin hcx
        go_wp2_with ((go_at_call 40; (with_reducible refine (hk_as b x false _ HC.out).mono ?_); rintro e w5 ⟨rfl, hw⟩; subst hw))
        go_ret
        exact ⟨by rw [← HT.out, HX.out, HI.out, ← HTT.out]; rfl, by repeat (first | exact HD.out | apply Drawn0.step)⟩
      | true =>
        rw [hin] at hcx
        have HC := Aside0.mk hcx
        have HI := Aside0.mk hin
        clear hin hcx
        go_wp2_with ((go_at_call 40; (with_reducible refine (hk_as b x true _ HC.out).mono ?_); rintro e w5 ⟨rfl, hw⟩; subst hw))
        go_roundg k1
        case measure => omega
        case rel => exact ⟨m, rfl, HM2, ⟨by rw [← HT.out, HX.out, HI.out]; rfl⟩, ⟨by repeat (first | exact HD.out | apply Drawn0.step)⟩⟩
theorem hk_trR (x : UInt8) (m cs : List UInt8) : Lib.trimRightS (m ++ [x]) cs = if cs.contains x then Lib.trimRightS m cs else m ++ [x] := by
  unfold Lib.trimRightS
  rw [List.reverse_append, List.reverse_singleton, List.singleton_append, List.dropWhile_cons]
  split
  · rfl
  · simp
set_option maxHeartbeats 2000000 in
set_option maxRecDepth 100000 in
theorem hk_trA (b : Nat) (cs : List UInt8) (l : List UInt8) (hl : l.length < 9223372036854775807) (w : World) (hset : ∀ x : UInt8, w.cell? ⟨b, x.toNat, none⟩ = some (.bool (cs.contains x))) :
    Calls Tryd.prog 28 #[.string ⟨l.toArray⟩, .pointer (some ⟨b, 0, none⟩)] w fun e w' => e = .returned (.string ⟨(Lib.trimRightS l cs).toArray⟩) ∧ Drawn0 w w' := by
  have HS := Aside0.mk hset
  have HL := Aside0.mk hl
  clear hset hl
  go_enter Tryd.func28, Tryd.ntmps28
  go_wp2
  go_loopg [0] (l.length) (fun kq v0 w' => ∃ m : List UInt8, v0 = .string ⟨m.reverse.toArray⟩ ∧ Aside0 (m.length = kq) ∧ Aside0 (kq ≤ l.length) ∧ Aside0 (Lib.trimRightS m.reverse cs = Lib.trimRightS l cs) ∧ Aside0 (Drawn0 w w'))
  case atStart => exact ⟨l.reverse, by rw [List.reverse_reverse], ⟨List.length_reverse⟩, ⟨Nat.le_refl _⟩, ⟨by rw [List.reverse_reverse]⟩, ⟨by repeat (first | exact Drawn0.refl _ | apply Drawn0.step)⟩⟩
  case round =>
    obtain ⟨m, rfl, HM, HQ, HT, HD⟩ := hrel
    cases m with
    | nil =>
      have hz : (⟨([] : List UInt8).reverse.toArray⟩ : ByteArray).size = 0 := rfl
      have hzz : decide (0 < (0 : Int)) = false := rfl
      go_wp2
      go_ret
      exact ⟨by rw [← HT.out]; rfl, by repeat (first | exact HD.out | apply Drawn0.step)⟩
    | cons x m =>
      obtain ⟨k1, rfl⟩ : ∃ k1, gk = k1 + 1 := ⟨m.length, by have := HM.out; simpa using this.symm⟩
      rw [List.reverse_cons] at HT ⊢
      have hm : m.reverse.length = k1 := by have := HM.out; simpa using this
      have hz := hk_rsz x m.reverse
      have hx := hk_rex x m.reverse
      have h0 := hk_rat x m.reverse
      rw [hm] at hz hx h0
      have hcx := (HD.out.below.cell (World.block_lt_of_cell? w _ (HS.out x))).trans (HS.out x)
      have HX := Aside0.mk (hk_trR x m.reverse cs)
      have HM2 : Aside0 (m.length = k1) := ⟨by have := HM.out; simpa using this⟩
      have w1 : wrap64 (((k1 + 1 : Nat) : Int) - 1) = (k1 : Int) := by have := HL.out; have := HQ.out; unfold wrap64; omega
      have w2 : wrap64 ((k1 : Int) + 1 - 1) = (k1 : Int) := by have := HL.out; have := HQ.out; unfold wrap64; omega
      have w3 : ((k1 : Int) + 1 - 1 + 9223372036854775808) % 18446744073709551616 - 9223372036854775808 = (k1 : Int) := by have := HL.out; have := HQ.out; omega
      have w4 : wrap64 (k1 : Int) = (k1 : Int) := by have := HL.out; have := HQ.out; unfold wrap64; omega
      have w5 : IntKind.i64.wrap (k1 : Int) = (k1 : Int) := by rw [i64_w]; exact w4
      clear HM hm
      generalize hT : (⟨(m.reverse ++ [x]).toArray⟩ : ByteArray) = T at hz hx h0 ⊢
      have HTT := Aside0.mk hT
      clear hT
      have hlt : k1 < T.size := by omega
      have hlt2 : ((k1 : Int) < (T.size : Int)) = True := eq_true (by omega)
      have hpos : decide (0 < (k1 : Int) + 1) = true := decide_eq_true (by omega)
      have hpos2 : decide (0 < ((k1 + 1 : Nat) : Int)) = true := decide_eq_true (by omega)
      have hp3 : (0 ≤ (k1 : Int)) = True := eq_true (by omega)
      cases hin : cs.contains x with
      | false =>
        rw [hin] at hcx
        have HC := Aside0.mk hcx
        have HI := Aside0.mk hin
        clear hin hcx
        go_wp2_with ((go_at_call 40; (with_reducible refine (hk_as b x false _ HC.out).mono ?_); rintro e w5 ⟨rfl, hw⟩; subst hw))
        go_ret
        exact ⟨by rw [← HT.out, HX.out, HI.out, ← HTT.out]; rfl, by repeat (first | exact HD.out | apply Drawn0.step)⟩
      | true =>
        rw [hin] at hcx
        have HC := Aside0.mk hcx
        have HI := Aside0.mk hin
        clear hin hcx
        go_wp2_with ((go_at_call 40; (with_reducible refine (hk_as b x true _ HC.out).mono ?_); rintro e w5 ⟨rfl, hw⟩; subst hw))
        go_roundg k1
        case measure => omega
        case rel => exact ⟨m, rfl, HM2, ⟨by have := HQ.out; omega⟩, ⟨by rw [← HT.out, HX.out, HI.out]; rfl⟩, ⟨by repeat (first | exact HD.out | apply Drawn0.step)⟩⟩
theorem hk_tr_trans {w w1 w2 : World} (h : Drawn0 w w1) (h2 : Drawn0 w1 w2) : Drawn0 w w2 := by
  obtain ⟨n, rfl⟩ := h2.out
  exact h.step n
def hk_dig : List UInt8 := [48, 49, 50, 51, 52, 53, 54, 55, 56, 57]
def strings_Trim.f (s c : ByteArray) : Option ByteArray := if s.size < 9223372036854775807 ∧ c = ⟨#[48, 49, 50, 51, 52, 53, 54, 55, 56, 57]⟩ then some ⟨(Lib.trimS s.data.toList hk_dig).toArray⟩ else none
set_option maxHeartbeats 2000000 in
set_option maxRecDepth 100000 in
theorem strings_Trim.calls (s c r : ByteArray) (w : World) (h : strings_Trim.f s c = some r) :
    Calls Tryd.prog 14 #[.string s, .string c] w fun e w' => e = .returned (.string r) ∧ Below w.heap.size w w' := by
  unfold strings_Trim.f at h
  split at h
  case isFalse => cases h
  case isTrue hc =>
  obtain ⟨hs, rfl⟩ := hc
  obtain rfl := Option.some.inj h
  clear h
  have hE : s = ⟨s.data.toList.toArray⟩ := (Lib.mk_data s).symm
  have hL : s.data.toList.length < 9223372036854775807 := by rw [← Lib.size_eq]; exact hs
  generalize hl : s.data.toList = l at hE hL ⊢
  subst hE
  clear hl hs
  rcases l with _ | ⟨x, l⟩
  · have h1 : ((⟨([] : List UInt8).toArray⟩ : ByteArray) == ⟨#[]⟩) = true := by decide
    go_enter Tryd.func14, Tryd.ntmps14
    go_wp2
    go_ret
    exact ⟨rfl, by repeat (first | exact Below.refl _ _ | apply Below.step)⟩
  · have HL := Aside0.mk hL
    clear hL
    have hemp2 : ((⟨(x :: l).toArray⟩ : ByteArray) = ⟨#[]⟩) = False := eq_false (by
      intro h
      have := congrArg ByteArray.size h
      rw [hk_tsz] at this
      cases this)
    have hemp3 : (⟨(x :: l).toArray⟩ : ByteArray).toList.isEmpty = false := by rw [Lib.toList_data]; rfl
    have hsz := Lib.setCells_size [48, 49, 50, 51, 52, 53, 54, 55, 56, 57]
    have hM := Aside0.mk (hk_mk w)
    have hsc : (storeCells ⟨w.heap.size + 1, 0, none⟩ (Lib.setCells [48, 49, 50, 51, 52, 53, 54, 55, 56, 57]).toList 0).run Tryd.prog ((w.alloc (.cells (Lib.setCells [48, 49, 50, 51, 52, 53, 54, 55, 56, 57]) 51)).alloc (.cells Tryd.zeroCells51 51)) = .ok () ((w.alloc (.cells (Lib.setCells [48, 49, 50, 51, 52, 53, 54, 55, 56, 57]) 51)).alloc (.cells (Lib.setCells [48, 49, 50, 51, 52, 53, 54, 55, 56, 57]) 51)) := by
      have := run_storeCells_new (P := Tryd.prog) (w.alloc (.cells (Lib.setCells [48, 49, 50, 51, 52, 53, 54, 55, 56, 57]) 51)) 51 (Array.replicate 256 (.bool false)) (Lib.setCells [48, 49, 50, 51, 52, 53, 54, 55, 56, 57]) (by rw [hsz]; kernel_rfl) (by rw [hsz, Array.size_replicate]) (Lib.setCells_one _)
      simpa [show Tryd.zeroCells51 = Array.replicate 256 (.bool false) from by kernel_rfl] using this
    have HSC := Aside0.mk hsc
    have HCL : Aside0 (∀ x : UInt8, ((w.alloc (.cells (Lib.setCells [48, 49, 50, 51, 52, 53, 54, 55, 56, 57]) 51)).alloc (.cells (Lib.setCells [48, 49, 50, 51, 52, 53, 54, 55, 56, 57]) 51)).cell? ⟨w.heap.size + 1, x.toNat, none⟩ = some (.bool (hk_dig.contains x))) := ⟨fun x => by
      rw [World.cell?_alloc_at _ _ _ _ (by simp), Lib.setCells_at]; rfl⟩
    have HB : Aside0 (Below w.heap.size w ((w.alloc (.cells (Lib.setCells [48, 49, 50, 51, 52, 53, 54, 55, 56, 57]) 51)).alloc (.cells (Lib.setCells [48, 49, 50, 51, 52, 53, 54, 55, 56, 57]) 51))) := ⟨((Below.refl _ _).alloc (Nat.le_refl _) _).alloc (by simp) _⟩
    clear hsc hsz
    go_enter Tryd.func14, Tryd.ntmps14
    go_wp2_with (go_at_call 26; refine hM.out.mono ?_; rintro e w' ⟨rfl, hw⟩; rw [hw])
    rw [HSC.out]
    clear hM HSC
    generalize ((w.alloc (.cells (Lib.setCells [48, 49, 50, 51, 52, 53, 54, 55, 56, 57]) 51)).alloc (.cells (Lib.setCells [48, 49, 50, 51, 52, 53, 54, 55, 56, 57]) 51)) = W at HCL HB ⊢
    simp only [Result.andThen]
    rw [Oper.upon_skip]
    generalize (Lib.setCells [48, 49, 50, 51, 52, 53, 54, 55, 56, 57]) = S
    obtain ⟨bb, hbb⟩ : ∃ b, b = w.heap.size + 1 := ⟨_, rfl⟩
    rw [← hbb] at HCL ⊢
    clear hbb
    go_wp2_with (first | (go_at_call 28; (with_reducible refine (hk_trA bb hk_dig (x :: l) HL.out _ HCL.out).mono ?_); rintro e w5 ⟨rfl, hd5⟩; have HD5 := Aside0.mk hd5; clear hd5) | (go_at_call 27; (with_reducible refine (hk_tlA bb hk_dig (Lib.trimRightS (x :: l) hk_dig) _ (fun x => (HD5.out.below.cell (World.block_lt_of_cell? _ _ (HCL.out x))).trans (HCL.out x))).mono ?_); rintro e w6 ⟨rfl, hd6⟩; have HD6 := Aside0.mk (hk_tr_trans HD5.out hd6); clear hd6))
    go_ret
    exact ⟨rfl, HB.out.trans (HD6.out.below.mono HB.out.size)⟩

/-! ### natural_Read: function 5 (by hand) -/
mutual
def natural_Read.l0 : Nat → List Int → List Int → Int → Int → Option (List Int × Int)
  | 0, _, _, _, _ => none
  | k + 1, x4, x32, x33, x34 => if x34 < x33 then (if 0 ≤ x34 then (if x34 < (x32.length : Int) then (natural_Read.l1 k x4 (((rd x32 x34) - 48) % 256) x32 x33 x34 (x4.length : Int) 0) else (none)) else (none)) else (some (x4, 0))
def natural_Read.l1 : Nat → List Int → Int → List Int → Int → Int → Int → Int → Option (List Int × Int)
  | 0, _, _, _, _, _, _, _ => none
  | k + 1, x4, x7, x32, x33, x34, x42, x43 => if x43 < x42 then (if 0 ≤ x43 then (if x43 < (x4.length : Int) then (natural_Read.l1 k (x4.set (x43 : Int).toNat (Int.tmod (IntKind.u64.wrap (x7 + (IntKind.u64.wrap (10 * (rd x4 x43))))) 65536)) (IntKind.u64.wrap (Int.tdiv (IntKind.u64.wrap (x7 + (IntKind.u64.wrap (10 * (rd x4 x43))))) 65536)) x32 x33 x34 x42 (wrap64 (x43 + 1))) else (none)) else (none)) else (if x7 > 0 then (if x4.length < 17592186044416 then (natural_Read.l0 k (x4 ++ [x7]) x32 x33 (wrap64 (x34 + 1))) else (none)) else (natural_Read.l0 k x4 x32 x33 (wrap64 (x34 + 1))))
end
def natural_Read.f (k : Nat) (a0 : ByteArray) : Option (List Int × Int) := if a0.size < 9223372036854775807 then (if a0.size = 0 then some ([], 17) else if (Lib.trimS a0.data.toList hk_dig).length ≠ 0 then some ([], 17) else if bt a0 0 = 48 ∧ 1 < a0.size then some ([], 17) else if 10000 < a0.size then some ([], 14) else natural_Read.l0 k ([] : List Int) (bytesOf a0) ((bytesOf a0).length : Int) 0) else none
theorem natural_Read.mono_l : ∀ k, (∀ y0 y1 y2 y3, LeO (natural_Read.l0 k y0 y1 y2 y3) (natural_Read.l0 (k + 1) y0 y1 y2 y3)) ∧ (∀ y0 y1 y2 y3 y4 y5 y6, LeO (natural_Read.l1 k y0 y1 y2 y3 y4 y5 y6) (natural_Read.l1 (k + 1) y0 y1 y2 y3 y4 y5 y6))
  | 0 => ⟨fun _ _ _ _ r h => by simp [natural_Read.l0] at h, fun _ _ _ _ _ _ _ r h => by simp [natural_Read.l1] at h⟩
  | k + 1 => by
    obtain ⟨ih0, ih1⟩ := natural_Read.mono_l k
    refine ⟨?_, ?_⟩
    · intro y0 y1 y2 y3
      unfold natural_Read.l0
      repeat' first
      | (with_reducible exact ih0 _ _ _ _)
      | (with_reducible exact ih1 _ _ _ _ _ _ _)
      | (with_reducible exact LeO.refl _)
      | (with_reducible exact LeO.none _)
      | (with_reducible refine LeO.ite ?_ ?_)
      | (with_reducible refine LeO.bind ?_ (fun _ => ?_))
      | exact ih0 _ _ _ _
      | exact ih1 _ _ _ _ _ _ _
      | exact LeO.none _
      | refine LeO.ite ?_ ?_
      | refine LeO.bind ?_ (fun _ => ?_)
    · intro y0 y1 y2 y3 y4 y5 y6
      unfold natural_Read.l1
      repeat' first
      | (with_reducible exact ih0 _ _ _ _)
      | (with_reducible exact ih1 _ _ _ _ _ _ _)
      | (with_reducible exact LeO.refl _)
      | (with_reducible exact LeO.none _)
      | (with_reducible refine LeO.ite ?_ ?_)
      | (with_reducible refine LeO.bind ?_ (fun _ => ?_))
      | exact ih0 _ _ _ _
      | exact ih1 _ _ _ _ _ _ _
      | exact LeO.none _
      | refine LeO.ite ?_ ?_
      | refine LeO.bind ?_ (fun _ => ?_)
theorem natural_Read.mono : ∀ a0 k, LeO (natural_Read.f k a0) (natural_Read.f (k + 1) a0) := by
  intro a0 k
  obtain ⟨ih0, ih1⟩ := natural_Read.mono_l k
  unfold natural_Read.f
  repeat' first
      | (with_reducible exact ih0 _ _ _ _)
      | (with_reducible exact LeO.refl _)
      | (with_reducible exact LeO.none _)
      | (with_reducible refine LeO.ite ?_ ?_)
theorem hk_rd_emp (T : List UInt8) (h : T.length ≠ 0) : (⟨T.toArray⟩ : ByteArray).toList.isEmpty = false := by
  rw [Lib.toList_data]
  cases T with
  | nil => exact absurd rfl h
  | cons _ _ => rfl
theorem hk_rd_nil (T : List UInt8) (h : T.length = 0) : (⟨T.toArray⟩ : ByteArray) = ⟨#[]⟩ := by
  rw [List.eq_nil_of_length_eq_zero h]
set_option maxHeartbeats 8000000 in
set_option maxRecDepth 100000 in
theorem natural_Read.calls (k : Nat) (a0 : ByteArray) (r1 : List Int) (r2 : Int) (w : World) (h : natural_Read.f k a0 = some (r1, r2)) :
    Calls Tryd.prog 5 #[.string a0] w fun e w' => ∃ v0_ : Value, e = .returned (.tuple #[v0_, .int .i64 r2]) ∧ Kd.R (Kd.int .u64) 23 w' w.heap.size (fun _ => True) v0_ r1 ∧ Below w.heap.size w w' := by
  unfold natural_Read.f at h
  by_cases hs : a0.size < 9223372036854775807
  case neg => rw [if_neg hs] at h; cases h
  rw [if_pos hs] at h
  by_cases h0 : a0.size = 0
  · rw [if_pos h0] at h
    obtain ⟨rfl, rfl⟩ := Prod.mk.inj (Option.some.inj h)
    obtain rfl : a0 = ⟨#[]⟩ := by
      rw [← Lib.mk_data a0]
      exact hk_rd_nil _ (by rw [← Lib.size_eq]; exact h0)
    clear h h0 hs
    go_enter Tryd.func5, Tryd.ntmps5
    go_wp2
    go_ret2
    exact ⟨_, rfl, Kd.R_nil _ _ _ _ _, by repeat (first | exact Below.refl _ _ | apply below_alloc | apply pw_below_drewN | apply below_drew1)⟩
  rw [if_neg h0] at h
  have hTr := Aside0.mk (strings_Trim.calls a0 ⟨#[48, 49, 50, 51, 52, 53, 54, 55, 56, 57]⟩ ⟨(Lib.trimS a0.data.toList hk_dig).toArray⟩ w (by unfold strings_Trim.f; rw [if_pos ⟨hs, rfl⟩]))
  have hne : a0.toList.isEmpty = false := by
    rw [← Lib.mk_data a0]
    exact hk_rd_emp _ (by rw [← Lib.size_eq]; exact h0)
  by_cases h1 : (Lib.trimS a0.data.toList hk_dig).length ≠ 0
  · rw [if_pos h1] at h
    obtain ⟨rfl, rfl⟩ := Prod.mk.inj (Option.some.inj h)
    have hT := hk_rd_emp _ h1
    generalize (⟨(Lib.trimS a0.data.toList hk_dig).toArray⟩ : ByteArray) = T at hT hTr
    clear h h0 hs h1
    go_enter Tryd.func5, Tryd.ntmps5
    go_wp2_with (go_at_call 14; (with_reducible refine hTr.out.mono ?_); rintro e w1 ⟨rfl, hb1⟩; have HB1 := Aside0.mk hb1; clear hb1)
    go_ret2
    exact ⟨_, rfl, Kd.R_nil _ _ _ _ _, by repeat (first | exact HB1.out | apply below_alloc | apply pw_below_drewN | apply below_drew1)⟩
  rw [if_neg h1] at h
  have hT : (⟨(Lib.trimS a0.data.toList hk_dig).toArray⟩ : ByteArray) = ⟨#[]⟩ := hk_rd_nil _ (by omega)
  rw [hT] at hTr
  clear hT h1
  have hp : 0 < a0.size := by omega
  have hb0 : bt a0 0 = ((a0[0]'hp).toNat : Int) := by simp [bt, hp]
  rw [hb0] at h
  clear hb0
  have hp2 : decide (0 < (a0.size : Int)) = true := decide_eq_true (by omega)
  have hp3 : ((0 : Int) < (a0.size : Int)) = True := eq_true (by omega)
  by_cases h2 : (((a0[0]'hp).toNat : Int) = 48 ∧ 1 < a0.size)
  · rw [if_pos h2] at h
    obtain ⟨rfl, rfl⟩ := Prod.mk.inj (Option.some.inj h)
    have e1 : (((a0[0]'hp).toNat : Int) == 48) = true := beq_iff_eq.2 h2.1
    have e2 : decide (1 < (a0.size : Int)) = true := decide_eq_true (by omega)
    have e3 : decide (1 < a0.size) = true := decide_eq_true h2.2
    clear h h0 hs h2
    go_enter Tryd.func5, Tryd.ntmps5
    go_wp2_with (go_at_call 14; (with_reducible refine hTr.out.mono ?_); rintro e w1 ⟨rfl, hb1⟩; have HB1 := Aside0.mk hb1; clear hb1)
    go_ret2
    exact ⟨_, rfl, Kd.R_nil _ _ _ _ _, by repeat (first | exact HB1.out | apply below_alloc | apply pw_below_drewN | apply below_drew1)⟩
  rw [if_neg h2] at h
  have e5 : (((a0[0]'hp).toNat : Int) == 48 && decide (1 < (a0.size : Int))) = false := by
    rw [Bool.and_eq_false_iff]
    by_cases q : ((a0[0]'hp).toNat : Int) = 48
    · right; exact decide_eq_false (by have : ¬ 1 < a0.size := fun q2 => h2 ⟨q, q2⟩; omega)
    · left; exact beq_eq_false_iff_ne.2 q
  by_cases h3 : 10000 < a0.size
  · rw [if_pos h3] at h
    obtain ⟨rfl, rfl⟩ := Prod.mk.inj (Option.some.inj h)
    have e2 : decide (1 < (a0.size : Int)) = true := decide_eq_true (by omega)
    have e3 : decide (1 < a0.size) = true := decide_eq_true (by omega)
    rw [e2, Bool.and_true] at e5
    have e4 : decide (10000 < (a0.size : Int)) = true := decide_eq_true (by omega)
    have e6 : decide (10000 < a0.size) = true := decide_eq_true (by omega)
    clear h h0 hs h2 h3
    go_enter Tryd.func5, Tryd.ntmps5
    go_wp2_with (go_at_call 14; (with_reducible refine hTr.out.mono ?_); rintro e w1 ⟨rfl, hb1⟩; have HB1 := Aside0.mk hb1; clear hb1)
    go_ret2
    exact ⟨_, rfl, Kd.R_nil _ _ _ _ _, by repeat (first | exact HB1.out | apply below_alloc | apply pw_below_drewN | apply below_drew1)⟩
  rw [if_neg h3] at h
  have H' := Aside0.mk h
  have HS := Aside0.mk hs
  have e4 : decide (10000 < (a0.size : Int)) = false := decide_eq_false (by omega)
  have e6 : decide (10000 < a0.size) = false := decide_eq_false (by omega)
  have kb := fun W => print_bytes (P := Tryd.prog) 9 38 5 Tryd.underlying9 Tryd.underlying38 Tryd.underlying5 a0 W
  have E5 := Aside0.mk e5
  clear h h0 hs h2 h3 e5
  have hE : ∃ x : Bool × Bool, (((a0[0]'hp).toNat : Int) == 48) = x.1 ∧ decide (1 < (a0.size : Int)) = x.2 ∧ decide (1 < a0.size) = x.2 ∧ (x.1 && x.2) = false := ⟨(_, _), rfl, rfl, by apply decide_eq_decide.2; omega, E5.out⟩
  obtain ⟨⟨x1, x2⟩, e1, e2, e3, e7⟩ := hE
  clear E5
  rcases (show (x1 = true ∧ x2 = false) ∨ x1 = false by cases x1 <;> cases x2 <;> simp_all) with ⟨rfl, rfl⟩ | rfl
  all_goals
    simp only at e1 e2 e3
    go_enter Tryd.func5, Tryd.ntmps5
    go_wp2_with (go_at_call 14; (with_reducible refine hTr.out.mono ?_); rintro e w1 ⟨rfl, hb1⟩; have HB1 := Aside0.mk hb1; clear hb1)
    have hbl := bytesOf_length a0
    have hBR := bytes_reads w1 5 a0 (by have := HS.out; omega)
    have hBB := bytes_below HB1.out HB1.out.size 5 a0
    generalize grownCap w1 a0.size 0 5 = c0
    generalize ((a0[0]'hp).toNat : Int) = v0
    clear kb e4 e6 hp2 hp3 hne e1 e2 e3 e7 hTr
    rw [← hbl] at hBR ⊢
    generalize Lib.bytesWorld w1 5 a0 = W1 at hBR hBB ⊢
    generalize bytesOf a0 = l0 at hBR H' ⊢
    generalize (some ⟨w1.heap.size, 0, none⟩ : Option Addr) = A0 at hBR ⊢
    have HR0 := Aside0.mk (show Kd.C (Kd.int .u8) W1 A0 l0.length l0 from Kd.C_of_reads (d := (0 : Int)) (h1 := fun _ => rfl) hBR)
    have HBW := Aside0.mk hBB
    have HB := Aside0.mk (Below.refl W1.heap.size W1)
    clear hBR hBB hbl
    go_loopg [4, 34] k (fun kq v4 v34 w' => ∃ (x4_1 : List Int) (x34_1 : Int), v34 = .int .i64 x34_1 ∧ Aside0 (natural_Read.l0 kq x4_1 l0 (l0.length : Int) x34_1 = some (r1, r2)) ∧ Aside0 (kq ≤ k) ∧ Aside0 (Kd.R (Kd.int .u64) 23 w' W1.heap.size (fun _ => True) v4 x4_1) ∧ Aside0 (Below W1.heap.size W1 w'))
    case atStart => exact ⟨(([] : List Int)), (0), (by first | rfl | (simp; done) | (simp [*]; done)), H', ⟨Nat.le_refl _⟩, ⟨by first | exact Kd.R_nil _ _ _ _ _ | exact Kd.N_nil _ _ _ _ _ | exact Kd.V_nil _ _ _ _ _ | exact Kd.Q_nil _ _ _ _ _ | exact Kd.S_nil _ _ _ _ _⟩, ⟨by repeat (first | (with_reducible first | exact HB.out | apply below_alloc | apply pw_below_drewN | apply below_drew1) | exact HB.out)⟩⟩
    case round =>
      clear H'
      obtain ⟨x4_1, x34_1, rfl, HA, HK1, HO_4, HB⟩ := hrel
      cases gk with
      | zero => exact absurd HA.out (by simp [natural_Read.l0])
      | succ k1 =>
        have H := HA.out
        clear HA
        simp only [natural_Read.l0] at H
        by_cases c2 : x34_1 < (l0.length : Int)
        · rw [if_pos c2] at H
          have c2b0 : decide (x34_1 < (l0.length : Int)) = true := decide_eq_true c2
          clear c2
          by_cases c3 : 0 ≤ x34_1
          · rw [if_pos c3] at H
            have c3b0 : decide (0 ≤ x34_1) = true := decide_eq_true c3
            clear c3
            by_cases c4 : x34_1 < (l0.length : Int)
            · rw [if_pos c4] at H
              have c4b0 : decide (x34_1 < (l0.length : Int)) = true := decide_eq_true c4
              clear c4
              have H' := Aside0.mk H
              clear H
              have p286 : 0 ≤ (x34_1 : Int) := of_decide_eq_true (by first | (with_reducible assumption) | assumption)
              have q286 : x34_1 < (l0.length : Int) := of_decide_eq_true (by first | (with_reducible assumption) | assumption)
              obtain ⟨ad286, e286, hx286_0⟩ := Kd.at_int HR0.out x34_1 p286 q286
              cases e286
              replace hx286_0 := (HB.out.cell (World.block_lt_of_cell? W1 _ hx286_0)).trans hx286_0
              replace p286 := eq_true p286
              replace q286 := eq_true q286
              obtain ⟨Ao5, co5, eo5⟩ := Kd.R_slice HO_4.out
              subst eo5
              go_wp2
              go_loopg [7, 43] k1 (fun kq v7 v43 w' => ∃ (x4_2 : List Int) (x7_2 : Int) (x43_2 : Int), v7 = .int .u64 x7_2 ∧ v43 = .int .i64 x43_2 ∧ Aside0 (natural_Read.l1 kq x4_2 x7_2 l0 (l0.length : Int) x34_1 (x4_1.length : Int) x43_2 = some (r1, r2)) ∧ Aside0 (kq ≤ k1) ∧ Aside0 (Kd.R (Kd.int .u64) 23 w' W1.heap.size (fun _ => True) (.slice Ao5 x4_1.length co5) x4_2) ∧ Aside0 (Below W1.heap.size W1 w'))
              case atStart => exact ⟨(x4_1), (((rd l0 x34_1) - 48) % 256), (0), (by first | rfl | (simp; done) | (simp [*]; done)), (by first | rfl | (simp; done) | (simp [*]; done)), H', ⟨Nat.le_refl _⟩, ⟨by (with_reducible repeat (first | apply Kd.R_alloc | apply Kd.R_drewN | apply Kd.R_drew)); exact HO_4.out⟩, ⟨by repeat (first | (with_reducible first | exact HB.out | apply below_alloc | apply pw_below_drewN | apply below_drew1) | exact HB.out)⟩⟩
              case round =>
                clear H'
                try clear c2
                try clear c2b0
                try clear p2
                try clear q2
                try clear hx2
                try clear c3
                try clear c3b0
                try clear c4
                try clear c4b0
                try clear c5
                try clear hx286_0
                try clear p286
                try clear q286
                obtain ⟨x4_2, x7_2, x43_2, rfl, rfl, HA, HK2, HO_4, HB⟩ := hrel
                have hl4_2 := (Kd.R_reads' HO_4.out).1
                rw [hl4_2] at HO_4
                (try simp only [hl4_2])
                cases gk with
                | zero => exact absurd HA.out (by simp [natural_Read.l1])
                | succ k2 =>
                  have H := HA.out
                  clear HA
                  simp only [natural_Read.l1] at H
                  by_cases c6 : x43_2 < (x4_1.length : Int)
                  · rw [if_pos c6] at H
                    have c6b0 : decide (x43_2 < (x4_1.length : Int)) = true := decide_eq_true c6
                    (try (have c6b0_0 := c6b0; simp only [hl4_2] at c6b0_0))
                    clear c6
                    by_cases c7 : 0 ≤ x43_2
                    · rw [if_pos c7] at H
                      have c7b0 : decide (0 ≤ x43_2) = true := decide_eq_true c7
                      clear c7
                      by_cases c8 : x43_2 < (x4_2.length : Int)
                      · rw [if_pos c8] at H
                        have c8b0 : decide (x43_2 < (x4_2.length : Int)) = true := decide_eq_true c8
                        (try (have c8b0_0 := c8b0; simp only [hl4_2] at c8b0_0))
                        clear c8
                        obtain ⟨y288, hy288⟩ : ∃ y_ : List Int, y_ = (x4_2.set (x43_2 : Int).toNat (Int.tmod (IntKind.u64.wrap (x7_2 + (IntKind.u64.wrap (10 * (rd x4_2 x43_2))))) 65536)) := ⟨_, rfl⟩
                        replace H : (natural_Read.l1 k2 y288 (IntKind.u64.wrap (Int.tdiv (IntKind.u64.wrap (x7_2 + (IntKind.u64.wrap (10 * (rd x4_2 x43_2))))) 65536)) l0 (l0.length : Int) x34_1 (x4_1.length : Int) (wrap64 (x43_2 + 1))) = some (r1, r2) := by first | (rw [hy288]; with_reducible exact H) | (have H2_ := (Option.bind_some _ _).symm.trans H; rw [hy288]; with_reducible exact H2_) | (have H2_ := (Option.bind_some _ _).symm.trans H; with_reducible exact H2_) | with_reducible exact H | (rw [hy288]; exact H) | exact H
                        have Ny288 := Aside0.mk hy288
                        clear hy288
                        have H' := Aside0.mk H
                        clear H
                        have p287 : 0 ≤ (x43_2 : Int) := of_decide_eq_true (by first | (with_reducible assumption) | assumption)
                        have q287 : x43_2 < (x4_2.length : Int) := of_decide_eq_true (by first | (with_reducible assumption) | assumption)
                        (try (first | (have hq_ := Kd.R_reads' HO_4.out; clear hq_) | (obtain ⟨AoQ287, coQ287, eoQ287⟩ := Kd.R_slice HO_4.out; subst eoQ287)))
                        obtain ⟨ad287, e287, hx287_0⟩ := Kd.at_int (Kd.R_reads' HO_4.out).2.2 x43_2 p287 q287
                        cases e287
                        replace p287 := eq_true p287
                        replace q287 := eq_true q287
                        have p9 : 0 ≤ (x43_2 : Int) := of_decide_eq_true (by first | (with_reducible assumption) | assumption)
                        have q9 : (x43_2 : Int) < ((x4_2.length : Int) : Int) := of_decide_eq_true (by first | (with_reducible assumption) | assumption)
                        obtain ⟨go9, co9, eo9, gb9, gl9, cl9, HG9⟩ := Kd.R_form HO_4.out (by omega)
                        (first | cases eo9 | (injection eo9 with ea_ en_ ec_; (first | subst ea_ | (injection ea_ with ea_; subst ea_)); subst ec_; clear en_))
                        have GB9 := Aside0.mk gb9
                        have GG9 := Aside0.mk HG9
                        clear gb9 gl9 HG9
                        (first | simp only [add_plain] at hx287_0 | skip)
                        obtain ⟨hx9_0, hf9_0⟩ := Kd.R_celln 0 HO_4.out (x43_2 : Int) p9 q9
                        replace p9 := eq_true p9
                        replace q9 := eq_true q9
                        have HP10 := Kd.R_putg HO_4.out (x43_2 : Int) (Int.tmod (IntKind.u64.wrap (x7_2 + (IntKind.u64.wrap (10 * (rd x4_2 x43_2))))) 65536)
                        go_wp2_with (first | ((with_reducible refine gate_store (t := 23) (p := 59) rfl ?_); refine store_event (t := 23) (p := 59) (v := ?vo_w11) (w1 := (wr.setCell ⟨go9, (x43_2 : Int).toNat, none⟩ (.int .u64 (Int.tmod (IntKind.u64.wrap (x7_2 + (IntKind.u64.wrap (10 * (rd x4_2 x43_2))))) 65536)))) ?hg ?ho ?hn ?hr ?_; (case ho => rfl); (case hg => rfl); (case hn => rfl); (case hr => first | (go_simp; done) | (go_simp; rfl)); intro w11 hw; have hg : wr.grownBy w11 (some go9) := (by rw [hw]; exact HP10.2); have hp_ : Kd.R (Kd.int .u64) 23 w11 W1.heap.size (fun _ => True) (.slice (some ⟨go9, 0, none⟩) x4_2.length co5) y288 := (by rw [hw, Ny288.out]; exact HP10.1); clear HP10; have n0_ := Aside0.mk (hp_); have n1_ := Aside0.mk ((by rw [hw]; exact below_set (HB.out) GB9.out : Below W1.heap.size W1 w11)); clear HO_4; clear HB; have HO_4 := n0_; have HB := n1_; clear n0_ n1_; clear hg hw hp_))
                        (try simp only [← hl4_2])
                        (first | go_roundg k2 | (simp only [add_plain] at *; go_roundg k2))
                        case measure => have := HK1.out; have := HK2.out; omega
                        case rel => exact ⟨(y288), (IntKind.u64.wrap (Int.tdiv (IntKind.u64.wrap (x7_2 + (IntKind.u64.wrap (10 * (rd x4_2 x43_2))))) 65536)), (wrap64 (x43_2 + 1)), (by first | rfl | (simp; done) | (simp [*]; done)), (by first | rfl | (simp; done) | (simp [*]; done)), H', ⟨by have := HK1.out; have := HK2.out; omega⟩, ⟨by (try simp only [hl4_2]); (with_reducible repeat (first | apply Kd.R_alloc | apply Kd.R_drewN | apply Kd.R_drew)); exact HO_4.out⟩, ⟨by repeat (first | (with_reducible first | exact HB.out | apply below_alloc | apply pw_below_drewN | apply below_drew1) | exact HB.out)⟩⟩
                      · rw [if_neg c8] at H
                        exact absurd H (by simp)
                    · rw [if_neg c7] at H
                      exact absurd H (by simp)
                  · rw [if_neg c6] at H
                    have c6b0 : decide (x43_2 < (x4_1.length : Int)) = false := decide_eq_false c6
                    (try (have c6b0_0 := c6b0; simp only [hl4_2] at c6b0_0))
                    clear c6
                    by_cases c12 : x7_2 > 0
                    · rw [if_pos c12] at H
                      have c12b0 : decide (0 < x7_2) = true := decide_eq_true c12
                      clear c12
                      by_cases c13 : x4_2.length < 17592186044416
                      · rw [if_pos c13] at H
                        have LMc13 := Aside0.mk c13
                        clear c13
                        obtain ⟨y289, hy289⟩ : ∃ y_ : List Int, y_ = (x4_2 ++ [x7_2]) := ⟨_, rfl⟩
                        replace H : (natural_Read.l0 k2 y289 l0 (l0.length : Int) (wrap64 (x34_1 + 1))) = some (r1, r2) := by first | (rw [hy289]; with_reducible exact H) | (have H2_ := (Option.bind_some _ _).symm.trans H; rw [hy289]; with_reducible exact H2_) | (have H2_ := (Option.bind_some _ _).symm.trans H; with_reducible exact H2_) | with_reducible exact H | (rw [hy289]; exact H) | exact H
                        have Ny289 := Aside0.mk hy289
                        clear hy289
                        have H' := Aside0.mk H
                        clear H
                        go_wp2_with (first | ((with_reducible refine gate_builtin (b := .append) (xs := #[.tmp 63, .tmp 65]) rfl ?_); at_builtin; refine Kd.R_append (Kd.int .u64) (w0 := W1) W1.heap.size rfl (.tmp 63) (.tmp 65) 22 23 (.int .u64 0) 8 rfl Tryd.underlying22 info23 rfl (by decide) (by omega) (.slice Ao5 x4_2.length co5) x4_2 x7_2 [.int .u64 x7_2] (fun _ => True) (fun _ => False) rfl rfl ?aP (fun _ hk => hk.elim) ?aF ?aO ?aB ?aS ?aL ?_; (case aP => exact rfl); (case aB => exact (by repeat (first | (with_reducible first | exact HB.out | apply below_alloc | apply pw_below_drewN | apply below_drew1) | exact HB.out))); (case aF => exact (fun _ _ => trivial)); (case aO => exact (by (with_reducible repeat (first | apply Kd.R_alloc | apply Kd.R_drewN | apply Kd.R_drew)); exact HO_4.out)); (case aS => exact (below_size (by repeat (first | (with_reducible first | exact HB.out | apply below_alloc | apply pw_below_drewN | apply below_drew1) | exact HB.out)))); (case aL => have := LMc13.out; omega); intro v290 w14 ho hb hg hat; rw [← Ny289.out] at ho; have n0_ := Aside0.mk (hb); have n1_ := Aside0.mk (ho); clear HB; clear HO_4; have HB := n0_; have HO291 := n1_; clear n0_ n1_; clear ho hb hg hat))
                        (try simp only [← hl4_2])
                        (first | go_roundg k2 | (simp only [add_plain] at *; go_roundg k2))
                        case measure => have := HK1.out; have := HK2.out; omega
                        case rel => exact ⟨(y289), (wrap64 (x34_1 + 1)), (by first | rfl | (simp; done) | (simp [*]; done)), H', ⟨by have := HK1.out; have := HK2.out; omega⟩, ⟨by (try simp only [hl4_2]); (with_reducible repeat (first | apply Kd.R_alloc | apply Kd.R_drewN | apply Kd.R_drew)); exact HO291.out⟩, ⟨by repeat (first | (with_reducible first | exact HB.out | apply below_alloc | apply pw_below_drewN | apply below_drew1) | exact HB.out)⟩⟩
                      · rw [if_neg c13] at H
                        exact absurd H (by simp)
                    · rw [if_neg c12] at H
                      have c12b0 : decide (0 < x7_2) = false := decide_eq_false c12
                      clear c12
                      have H' := Aside0.mk H
                      clear H
                      go_wp2
                      (try simp only [← hl4_2])
                      (first | go_roundg k2 | (simp only [add_plain] at *; go_roundg k2))
                      case measure => have := HK1.out; have := HK2.out; omega
                      case rel => exact ⟨(x4_2), (wrap64 (x34_1 + 1)), (by first | rfl | (simp; done) | (simp [*]; done)), H', ⟨by have := HK1.out; have := HK2.out; omega⟩, ⟨by (try simp only [hl4_2]); (with_reducible repeat (first | apply Kd.R_alloc | apply Kd.R_drewN | apply Kd.R_drew)); exact HO_4.out⟩, ⟨by repeat (first | (with_reducible first | exact HB.out | apply below_alloc | apply pw_below_drewN | apply below_drew1) | exact HB.out)⟩⟩
            · rw [if_neg c4] at H
              exact absurd H (by simp)
          · rw [if_neg c3] at H
            exact absurd H (by simp)
        · rw [if_neg c2] at H
          have c2b0 : decide (x34_1 < (l0.length : Int)) = false := decide_eq_false c2
          clear c2
          simp only [Option.some.injEq, Prod.mk.injEq] at H
          obtain ⟨rfl, rfl⟩ := H
          go_wp2
          go_ret2
          exact ⟨_, by first | rfl | (simp; done), Kd.R_lower HO_4.out HBW.out.size, HBW.out.trans (HB.out.mono HBW.out.size)⟩

/-! ### abacistref04_Same: function 7 -/
def abacistref04_Same.l0 : Nat → List Int → List Int → Int → Option (Bool)
  | 0, _, _, _ => none
  | k + 1, x0, x1, x5 => if x5 < (x0.length : Int) then (if 0 ≤ x5 then (if x5 < (x1.length : Int) then (if (rd x0 x5) = (rd x1 x5) then (abacistref04_Same.l0 k x0 x1 (wrap64 (x5 + 1))) else (some false)) else (none)) else (none)) else (some true)
def abacistref04_Same.f (k : Nat) (l0 : List Int) (l1 : List Int) : Option (Bool) := if (l0.length : Int) = (l1.length : Int) then (abacistref04_Same.l0 k l0 l1 0) else (some false)
theorem abacistref04_Same.mono_l : ∀ k, (∀ y0 y1 y2, LeO (abacistref04_Same.l0 k y0 y1 y2) (abacistref04_Same.l0 (k + 1) y0 y1 y2))
  | 0 => fun _ _ _ r h => by simp [abacistref04_Same.l0] at h
  | k + 1 => by
    have ih0 := abacistref04_Same.mono_l k
    · intro y0 y1 y2
      unfold abacistref04_Same.l0
      repeat' first
      | (with_reducible exact ih0 _ _ _)
      | (with_reducible exact LeO.refl _)
      | (with_reducible exact LeO.none _)
      | (with_reducible refine LeO.ite ?_ ?_)
      | (with_reducible refine LeO.bind ?_ (fun _ => ?_))
      | exact ih0 _ _ _
      | exact LeO.none _
      | refine LeO.ite ?_ ?_
      | refine LeO.bind ?_ (fun _ => ?_)
theorem abacistref04_Same.mono : ∀ a0 a1 k, LeO (abacistref04_Same.f k a0 a1) (abacistref04_Same.f (k + 1) a0 a1) := by
  intro a0 a1 k
  have ih0 := abacistref04_Same.mono_l k
  unfold abacistref04_Same.f
  repeat' first
      | (with_reducible exact ih0 _ _ _)
      | (with_reducible exact LeO.refl _)
      | (with_reducible exact LeO.none _)
      | (with_reducible refine LeO.ite ?_ ?_)
      | (with_reducible refine LeO.bind ?_ (fun _ => ?_))
      | exact ih0 _ _ _
      | exact LeO.none _
      | refine LeO.ite ?_ ?_
      | refine LeO.bind ?_ (fun _ => ?_)
set_option maxHeartbeats 8000000 in
set_option maxRecDepth 100000 in
theorem abacistref04_Same.calls (k : Nat) (A0 : Option Addr) (c0 : Nat) (l0 : List Int) (A1 : Option Addr) (c1 : Nat) (l1 : List Int) (r : Bool) (w : World) (hr0 : Kd.C (Kd.int .u64) w A0 l0.length l0) (hc0 : l0.length ≤ c0) (hr1 : Kd.C (Kd.int .u64) w A1 l1.length l1) (hc1 : l1.length ≤ c1) (h : abacistref04_Same.f k l0 l1 = some r) :
    Calls Tryd.prog 7 #[.slice A0 l0.length c0, .slice A1 l1.length c1] w fun e w' => e = .returned (.bool r) ∧ Drawn0 w w' := by
  have HR0 := Aside0.mk hr0
  have HC0 := Aside0.mk hc0
  clear hr0 hc0
  have HR1 := Aside0.mk hr1
  have HC1 := Aside0.mk hc1
  clear hr1 hc1
  have H : (if (l0.length : Int) = (l1.length : Int) then (abacistref04_Same.l0 k l0 l1 0) else (some false)) = some r := h
  clear h
  by_cases c3 : (l0.length : Int) = (l1.length : Int)
  · rw [if_pos c3] at H
    have c3b0 : ((l0.length : Int) == (l1.length : Int)) = true := beq_iff_eq.mpr c3
    have c3b1 : ((l0.length : Int) != (l1.length : Int)) = false := bne_eq_false_iff_eq.mpr c3
    have c3b2 : (l0.length == l1.length) = true := by first | simpa using c3 | (simp at c3 ⊢; omega)
    clear c3
    have H' := Aside0.mk H
    clear H
    go_enter Tryd.func7, Tryd.ntmps7
    go_wp2
    repeat (go_quiet (fail); try go_wp2)
    go_loopg [5] k (fun kq v5 w' => ∃ (x5_1 : Int), v5 = .int .i64 x5_1 ∧ Aside0 (abacistref04_Same.l0 kq l0 l1 x5_1 = some r) ∧ Aside0 (kq ≤ k) ∧ Drawn0 w w')
    case atStart => exact ⟨(0), (by first | rfl | (simp; done) | (simp [*]; done)), H', ⟨Nat.le_refl _⟩, by repeat (first | exact Drawn0.refl _ | apply Drawn0.step)⟩
    case round =>
      clear H'
      try clear c1
      try clear p2
      try clear c3
      try clear c3b0
      try clear c3b1
      try clear c3b2
      obtain ⟨x5_1, rfl, HA, HK1, ⟨m1, rfl⟩⟩ := hrel
      cases gk with
      | zero => exact absurd HA.out (by simp [abacistref04_Same.l0])
      | succ k1 =>
        have H := HA.out
        clear HA
        simp only [abacistref04_Same.l0] at H
        by_cases c4 : x5_1 < (l0.length : Int)
        · rw [if_pos c4] at H
          have c4b0 : decide (x5_1 < (l0.length : Int)) = true := decide_eq_true c4
          clear c4
          by_cases c5 : 0 ≤ x5_1
          · rw [if_pos c5] at H
            have c5b0 : decide (0 ≤ x5_1) = true := decide_eq_true c5
            clear c5
            by_cases c6 : x5_1 < (l1.length : Int)
            · rw [if_pos c6] at H
              have c6b0 : decide (x5_1 < (l1.length : Int)) = true := decide_eq_true c6
              clear c6
              by_cases c7 : (rd l0 x5_1) = (rd l1 x5_1)
              · rw [if_pos c7] at H
                have c7b0 : ((rd l0 x5_1) == (rd l1 x5_1)) = true := beq_iff_eq.mpr c7
                have c7b1 : ((rd l0 x5_1) != (rd l1 x5_1)) = false := bne_eq_false_iff_eq.mpr c7
                clear c7
                have H' := Aside0.mk H
                clear H
                have p286 : 0 ≤ (x5_1 : Int) := of_decide_eq_true (by first | (with_reducible assumption) | assumption)
                have q286 : x5_1 < (l0.length : Int) := of_decide_eq_true (by first | (with_reducible assumption) | assumption)
                obtain ⟨ad286, e286, hx286_0⟩ := Kd.at_int HR0.out x5_1 p286 q286
                cases e286
                replace p286 := eq_true p286
                replace q286 := eq_true q286
                have p287 : 0 ≤ (x5_1 : Int) := of_decide_eq_true (by first | (with_reducible assumption) | assumption)
                have q287 : x5_1 < (l1.length : Int) := of_decide_eq_true (by first | (with_reducible assumption) | assumption)
                obtain ⟨ad287, e287, hx287_0⟩ := Kd.at_int HR1.out x5_1 p287 q287
                cases e287
                replace p287 := eq_true p287
                replace q287 := eq_true q287
                go_wp2
                repeat (go_quiet (fail); try go_wp2)
                (first | go_roundg k1 | (simp only [add_plain] at *; go_roundg k1))
                case measure => have := HK1.out; omega
                case rel => exact ⟨(wrap64 (x5_1 + 1)), (by first | rfl | (simp; done) | (simp [*]; done)), H', ⟨by have := HK1.out; omega⟩, by repeat (first | exact Drawn0.refl _ | apply Drawn0.step)⟩
              · rw [if_neg c7] at H
                have c7b0 : ((rd l0 x5_1) == (rd l1 x5_1)) = false := beq_eq_false_iff_ne.mpr c7
                have c7b1 : ((rd l0 x5_1) != (rd l1 x5_1)) = true := bne_iff_ne.mpr c7
                obtain rfl := Option.some.inj H
                have p286 : 0 ≤ (x5_1 : Int) := of_decide_eq_true (by first | (with_reducible assumption) | assumption)
                have q286 : x5_1 < (l0.length : Int) := of_decide_eq_true (by first | (with_reducible assumption) | assumption)
                obtain ⟨ad286, e286, hx286_0⟩ := Kd.at_int HR0.out x5_1 p286 q286
                cases e286
                replace p286 := eq_true p286
                replace q286 := eq_true q286
                have p287 : 0 ≤ (x5_1 : Int) := of_decide_eq_true (by first | (with_reducible assumption) | assumption)
                have q287 : x5_1 < (l1.length : Int) := of_decide_eq_true (by first | (with_reducible assumption) | assumption)
                obtain ⟨ad287, e287, hx287_0⟩ := Kd.at_int HR1.out x5_1 p287 q287
                cases e287
                replace p287 := eq_true p287
                replace q287 := eq_true q287
                go_wp2
                repeat (go_quiet (fail); try go_wp2)
                go_ret
                exact ⟨by first | rfl | (simp; done) | (simp [*]; done), by repeat (first | exact Drawn0.refl _ | apply Drawn0.step)⟩
            · rw [if_neg c6] at H
              exact absurd H (by simp)
          · rw [if_neg c5] at H
            exact absurd H (by simp)
        · rw [if_neg c4] at H
          have c4b0 : decide (x5_1 < (l0.length : Int)) = false := decide_eq_false c4
          clear c4
          obtain rfl := Option.some.inj H
          go_wp2
          repeat (go_quiet (fail); try go_wp2)
          go_ret
          exact ⟨by first | rfl | (simp; done) | (simp [*]; done), by repeat (first | exact Drawn0.refl _ | apply Drawn0.step)⟩
  · rw [if_neg c3] at H
    have c3b0 : ((l0.length : Int) == (l1.length : Int)) = false := beq_eq_false_iff_ne.mpr c3
    have c3b1 : ((l0.length : Int) != (l1.length : Int)) = true := bne_iff_ne.mpr c3
    have c3b2 : (l0.length == l1.length) = false := by first | simpa using c3 | (simp at c3 ⊢; omega)
    obtain rfl := Option.some.inj H
    go_enter Tryd.func7, Tryd.ntmps7
    go_wp2
    repeat (go_quiet (fail); try go_wp2)
    go_ret
    exact ⟨by first | rfl | (simp; done) | (simp [*]; done), by repeat (first | exact Drawn0.refl _ | apply Drawn0.step)⟩

/-! ### abacistref31_get: function 32 -/
def abacistref31_get.f (l0 : List Int) (a1 : Int) : Option (Int) := if a1 < (l0.length : Int) then (if 0 ≤ a1 then (some (rd l0 a1)) else (none)) else (some 0)
set_option maxHeartbeats 8000000 in
set_option maxRecDepth 100000 in
theorem abacistref31_get.calls (A0 : Option Addr) (c0 : Nat) (l0 : List Int) (a1 : Int) (r : Int) (w : World) (hr0 : Kd.C (Kd.int .u64) w A0 l0.length l0) (hc0 : l0.length ≤ c0) (h : abacistref31_get.f l0 a1 = some r) :
    Calls Tryd.prog 32 #[.slice A0 l0.length c0, .int .i64 a1] w fun e w' => e = .returned (.int .u64 r) ∧ Drawn0 w w' := by
  have HR0 := Aside0.mk hr0
  have HC0 := Aside0.mk hc0
  clear hr0 hc0
  have H : (if a1 < (l0.length : Int) then (if 0 ≤ a1 then (some (rd l0 a1)) else (none)) else (some 0)) = some r := h
  clear h
  by_cases c3 : a1 < (l0.length : Int)
  · rw [if_pos c3] at H
    have c3b0 : decide (a1 < (l0.length : Int)) = true := decide_eq_true c3
    clear c3
    by_cases c4 : 0 ≤ a1
    · rw [if_pos c4] at H
      have c4b0 : decide (0 ≤ a1) = true := decide_eq_true c4
      clear c4
      obtain rfl := Option.some.inj H
      have p288 : 0 ≤ (a1 : Int) := of_decide_eq_true (by first | (with_reducible assumption) | assumption)
      have q288 : a1 < (l0.length : Int) := of_decide_eq_true (by first | (with_reducible assumption) | assumption)
      obtain ⟨ad288, e288, hx288_0⟩ := Kd.at_int HR0.out a1 p288 q288
      cases e288
      replace p288 := eq_true p288
      replace q288 := eq_true q288
      go_enter Tryd.func32, Tryd.ntmps32
      go_wp2
      go_ret
      exact ⟨by first | rfl | (simp; done) | (simp [*]; done), by repeat (first | exact Drawn0.refl _ | apply Drawn0.step)⟩
    · rw [if_neg c4] at H
      exact absurd H (by simp)
  · rw [if_neg c3] at H
    have c3b0 : decide (a1 < (l0.length : Int)) = false := decide_eq_false c3
    clear c3
    obtain rfl := Option.some.inj H
    go_enter Tryd.func32, Tryd.ntmps32
    go_wp2
    go_ret
    exact ⟨by first | rfl | (simp; done) | (simp [*]; done), by repeat (first | exact Drawn0.refl _ | apply Drawn0.step)⟩

end Go.Proofs.YtaiahgnkgbfcfaaDoor.PNaturalTexts
