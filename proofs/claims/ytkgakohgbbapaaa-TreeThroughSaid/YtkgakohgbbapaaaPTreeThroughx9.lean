-- Written for this claim by wip/gen/mk.sh, this session's own driver over the kit's print
import Derived.Test.YtkgakohgbbapaaaPTreeThroughx0
import Derived.Test.YtkgakohgbbapaaaPTreeThroughx1
import Derived.Test.YtkgakohgbbapaaaPTreeThroughx2
import Derived.Test.YtkgakohgbbapaaaPTreeThroughx3
import Derived.Test.YtkgakohgbbapaaaPTreeThroughx8
namespace Go.Proofs.Ytkgakohgbbapaaa.PTreeThrough
open Go.RowKit Go.Proofs.YtkgakohgbbapaaaW.PrintWords Go.Proofs.YtkgakohgbbapaaaW.PrintLast Go.Proofs.YtkgakohgbbapaaaW.PrintMore
attribute [local go_sem] max2_int min2_int max_two min_two max_three min_three max_four min_four   -- for this text's walks alone
set_option linter.unusedVariables false
set_option linter.unusedSimpArgs false

/-! ### series_inv: function 50 (by hand) -/
theorem hk_V_of_C {w : World} {A : Option Addr} {c base : Nat} {l : List Int} (h : Kd.C (Kd.int .u64) w A l.length l) (hl : l.length ≤ c) : Kd.V (Kd.int .u64) 29 w base (fun _ => True) (.slice A l.length c) l :=
  Kd.V_mk hl (fun W' hW => Kd.Heap.C (Kd.heap_int .u64) (fun k hk => hW k trivial hk) h)
/-- A row's first words, each its negative. -/
def hk_negs (t : List Int) : Nat → Option (List Int)
  | 0 => some t
  | i + 1 => (hk_negs t i).bind fun x => (gold_Neg.f (rd x (i : Int))).bind fun v => some (x.set i v)
theorem hk_negs_length {t : List Int} : ∀ {i : Nat} {x : List Int}, hk_negs t i = some x → x.length = t.length
  | 0, x, h => by rw [← Option.some.inj h]
  | i + 1, x, h => by
    unfold hk_negs at h
    obtain ⟨y, hy, h⟩ := Option.bind_eq_some_iff.1 h
    obtain ⟨v, _, h⟩ := Option.bind_eq_some_iff.1 h
    rw [← Option.some.inj h, List.length_set]
    exact hk_negs_length hy
theorem hk_negs_down {t : List Int} : ∀ {i j : Nat} {r : List Int}, hk_negs t (i + j) = some r → ∃ x, hk_negs t i = some x
  | i, 0, r, h => ⟨r, h⟩
  | i, j + 1, r, h => by
    unfold hk_negs at h
    obtain ⟨y, hy, _⟩ := Option.bind_eq_some_iff.1 h
    exact hk_negs_down (j := j) hy
/-- A step of the inverse: s * (2 - p * s), cut off. -/
def hk_invStep (n : Nat) (p s : List Int) (m : Int) : Option (List Int) := (series_mul.f n p s m).bind fun t => (hk_negs t t.length).bind fun t2 => if 0 < t.length then (gold_Add.f (rd t2 0) 2).bind fun v => series_mul.f n s (t2.set 0 v) m else none
/-- Steps, each of twice as many words. -/
def hk_lng (step : List Int → Int → Option (List Int)) (n : Int) : Nat → List Int → Int → Option (List Int)
  | 0, _, _ => none
  | j + 1, s, m => if (s.length : Int) < n then (step s (mn m n)).bind fun s2 => hk_lng step n j s2 (wrap64 (m * 2)) else some s
theorem hk_mul_at (k : Nat) (P0_ : Nat → Prop) (A0 : Option Addr) (c0 : Nat) (l0 : List Int) (P1_ : Nat → Prop) (A1 : Option Addr) (c1 m1 : Nat) (l1 : List Int) (a2 : Int) (r : List Int) (w : World) (h1 : m1 = l1.length) (hs0 : Kd.V (Kd.int .u64) 29 w w.heap.size (fun k_ => P0_ k_) (.slice A0 l0.length c0) l0) (hs1 : Kd.V (Kd.int .u64) 29 w w.heap.size (fun k_ => P1_ k_) (.slice A1 m1 c1) l1) (h : series_mul.f k l0 l1 a2 = some r) :
    Calls Try.prog 49 #[.slice A0 l0.length c0, .slice A1 m1 c1, .int .i64 a2] w fun e w' => ∃ v0_ : Value, e = .returned (v0_) ∧ Kd.R (Kd.int .u64) 29 w' w.heap.size (fun k_ => (w.heap.size ≤ k_)) v0_ r ∧ Below w.heap.size w w' := by
  subst h1
  exact series_mul.calls k P0_ A0 c0 l0 P1_ A1 c1 l1 a2 r w hs0 hs1 h
set_option maxHeartbeats 8000000 in
set_option maxRecDepth 100000 in
theorem hk_inv1.calls (n : Nat) (A0 : Option Addr) (c0 : Nat) (p : List Int) (As : Option Addr) (cs : Nat) (s : List Int) (m : Int) (b : Nat) (r : List Int) (w : World) (hc : w.cell? ⟨b, 0, none⟩ = some (.slice A0 p.length c0)) (hp : Kd.V (Kd.int .u64) 29 w w.heap.size (fun _ => True) (.slice A0 p.length c0) p) (hs : Kd.V (Kd.int .u64) 29 w w.heap.size (fun _ => True) (.slice As s.length cs) s) (h : hk_invStep n p s m = some r) :
    Calls Try.prog 63 #[.slice As s.length cs, .int .i64 m, .pointer (some ⟨b, 0, none⟩)] w fun e w' => ∃ v0_ : Value, e = .returned (v0_) ∧ Kd.R (Kd.int .u64) 29 w' w.heap.size (fun _ => True) v0_ r ∧ Below w.heap.size w w' := by
  unfold hk_invStep at h
  obtain ⟨t, ht, h⟩ := Option.bind_eq_some_iff.1 h
  obtain ⟨t2, ht2, h⟩ := Option.bind_eq_some_iff.1 h
  by_cases hl : 0 < t.length
  case neg => rw [if_neg hl] at h; cases h
  rw [if_pos hl] at h
  obtain ⟨v, hv, h⟩ := Option.bind_eq_some_iff.1 h
  have HP := Aside0.mk hp
  have HS := Aside0.mk hs
  have HT := Aside0.mk ht
  have HT2 := Aside0.mk ht2
  have HV := Aside0.mk hv
  have HR := Aside0.mk h
  have HL := Aside0.mk hl
  clear hp hs ht ht2 hl hv h
  go_enter Try.func63, Try.ntmps63
  go_wp2_with ((go_at_call 49; (with_reducible refine (series_mul.calls n _ A0 c0 p _ As cs s m t _ HP.out HS.out HT.out).mono ?_); rintro e w1 ⟨vt, rfl, hR_, hB_⟩; obtain ⟨g, co, eo, gb, gl, cl, hGG⟩ := Kd.R_form hR_ HL.out; subst eo; have HO := Aside0.mk (Kd.R_flat (ok' := fun j => j = g) (fun h => h) hR_ (fun q hq _ => (Option.some.inj hq).symm)); have HB := Aside0.mk hB_; have GB := Aside0.mk gb; clear hR_ hB_ gb gl cl hGG))
  go_loopg [14] (t.length) (fun kq v14 w' => ∃ (i : Nat) (x : List Int), v14 = .int .i64 (i : Int) ∧ Aside0 (kq + i = t.length) ∧ Aside0 (hk_negs t i = some x) ∧ Aside0 (Kd.R (Kd.int .u64) 29 w' w.heap.size (fun j => j = g) (.slice (some ⟨g, 0, none⟩) t.length co) x) ∧ Aside0 (Below w.heap.size w w'))
  case atStart => exact ⟨0, t, by simp, ⟨by omega⟩, ⟨rfl⟩, HO, HB⟩
  case round =>
    clear HO HB
    obtain ⟨i, x, rfl, HI, HX, HO, HB⟩ := hrel
    have hxl : x.length = t.length := hk_negs_length HX.out
    have HXL := Aside0.mk hxl
    cases gk with
    | zero =>
      have hi := HI.out
      have ei : i = t.length := by omega
      have c1 : decide ((i : Int) < (t.length : Int)) = false := decide_eq_false (by omega)
      have c2 : (i < t.length) = False := eq_false (by omega)
      have ex : x = t2 := by
        have hx := HX.out
        rw [ei, HT2.out] at hx
        exact (Option.some.inj hx).symm
      subst ex
      have q1 : (0 < t.length) = True := eq_true HL.out
      have q2 : ((0 : Int) < (t.length : Int)) = True := eq_true (by have := HL.out; omega)
      obtain ⟨hx0, hf0⟩ := Kd.R_celln 0 HO.out (0 : Int) (by omega) (by have := HL.out; omega)
      rw [show (0 : Int).toNat = 0 from rfl] at hx0 hf0
      replace hx0 : wr.cell? ⟨g, 0, none⟩ = some (.int .u64 (rd x 0)) := hx0
      clear hi ei hxl
      go_wp2_with fail
      (with_reducible refine (gold_Add.calls _ 2 v _ HV.out).mono ?_)
      rintro e w5 ⟨rfl, hb5⟩
      have HO5 := Aside0.mk (Kd.R_below HO.out hb5)
      have HB5 := Aside0.mk (HB.out.trans (hb5.mono HB.out.size))
      clear HO HB hb5
      clear hx0 hf0
      have f5 := Kd.R_celln 0 HO5.out (0 : Int) (by omega) (by have := HXL.out; have := HL.out; omega)
      rw [show (0 : Int).toNat = 0 from rfl] at f5
      obtain ⟨hx5, hf5⟩ := f5
      have HP5 := Aside0.mk (Kd.R_putn HO5.out (0 : Int) v)
      rw [show (0 : Int).toNat = 0 from rfl] at HP5
      have HB6 := Aside0.mk (below_set HB5.out GB.out (j := 0) (v := .int .u64 v))
      go_wp2_with fail
      clear hx5 hf5
      have VS := Kd.V_far (Kd.V_below (Kd.V_bound HS.out) HB5.out) (p := ⟨g, 0, none⟩) (fun k hk => by have h1 := hk.2; have h2 := GB.out; show k ≠ g; omega) (.int .u64 v)
      have VT := Kd.R_V (base' := (w5.setCell ⟨g, 0, none⟩ (.int .u64 v)).heap.size) HP5.out
      refine (hk_mul_at n (fun k => True ∧ k < w.heap.size) As cs s (fun j => j = g) (some ⟨g, 0, none⟩) co t.length (x.set 0 v) m r _ (by rw [List.length_set]; exact HXL.out.symm) VS VT HR.out).mono ?_
      rintro e w7 ⟨vr, rfl, hR7_, hB7_⟩
      have HR7 := Aside0.mk (Kd.R_mono (ok' := fun _ => True) (Kd.R_lower hR7_ HB6.out.size) (fun _ _ => trivial))
      have HB7 := Aside0.mk (HB6.out.trans (hB7_.mono HB6.out.size))
      clear hR7_ hB7_
      go_wp2_with fail
      go_ret
      exact ⟨vr, rfl, HR7.out, HB7.out⟩
    | succ k1 =>
      have hi := HI.out
      have hil : i < t.length := by omega
      have c1 : decide ((i : Int) < (t.length : Int)) = true := decide_eq_true (by omega)
      have c2 : (i < t.length) = True := eq_true hil
      have c3 : (0 ≤ (i : Int)) = True := eq_true (by omega)
      have c4 : ((i : Int) < (t.length : Int)) = True := eq_true (by omega)
      obtain ⟨y, hy⟩ : ∃ y, hk_negs t (i + 1) = some y := hk_negs_down (j := k1) (by rw [show i + 1 + k1 = t.length by omega]; exact HT2.out)
      have HY := Aside0.mk hy
      unfold hk_negs at hy
      rw [HX.out, Option.bind_some] at hy
      obtain ⟨u, hu, hy⟩ := Option.bind_eq_some_iff.1 hy
      have HU := Aside0.mk hu
      have EY := Aside0.mk (Option.some.inj hy)
      obtain ⟨hx2, hf2⟩ := Kd.R_celln 0 HO.out (i : Int) (by omega) (by omega)
      rw [Int.toNat_natCast] at hx2 hf2
      replace hx2 : wr.cell? ⟨g, i, none⟩ = some (.int .u64 (rd x (i : Int))) := hx2
      clear hi hil hu hy hxl
      go_wp2_with ((go_at_call 24; (with_reducible refine (gold_Neg.calls _ u _ HU.out).mono ?_); rintro e w5 ⟨rfl, hb5⟩; obtain ⟨nd, rfl⟩ := hb5.out; clear hb5))
      have HP2 := Aside0.mk (Kd.R_putn (Kd.R_drewN HO.out nd) (i : Int) u)
      rw [Int.toNat_natCast, EY.out] at HP2
      have HB2 := Aside0.mk (below_set (pw_below_drewN HB.out nd) GB.out (j := i) (v := .int .u64 u))
      clear hx2 hf2 c1 c2 c3 c4
      go_roundg k1
      case measure => omega
      case rel => exact ⟨i + 1, y, (by rw [show wrap64 ((i : Int) + 1) = ((i + 1 : Nat) : Int) by have := HI.out; have := HXL.out; have := (Kd.R_reads' HO.out).2.2.2.1; unfold wrap64; omega]), ⟨by have := HI.out; omega⟩, HY, HP2, HB2⟩
set_option maxHeartbeats 8000000 in
set_option maxRecDepth 100000 in
theorem hk_longerInv.calls (n k : Nat) (A0 : Option Addr) (c0 : Nat) (p : List Int) (b : Nat) (a m : Int) (s r : List Int) (w : World) (hc : w.cell? ⟨b, 0, none⟩ = some (.slice A0 p.length c0)) (hp : Kd.V (Kd.int .u64) 29 w w.heap.size (fun _ => True) (.slice A0 p.length c0) p)
    (h : hk_lng (hk_invStep n p) m k [a] 2 = some s) (h2 : series_cut.f n s m = some r) :
    Calls Try.prog 62 #[.int .u64 a, .int .i64 m, .func (.func 63) #[] #[.pointer (some ⟨b, 0, none⟩)]] w fun e w' => ∃ v0_ : Value, e = .returned (v0_) ∧ Kd.R (Kd.int .u64) 29 w' w.heap.size (fun _ => True) v0_ r ∧ Below w.heap.size w w' := by
  have HC := Aside0.mk hc
  have HP := Aside0.mk (Kd.V_bound hp)
  have H := Aside0.mk h
  have H2 := Aside0.mk h2
  have HB0 := Aside0.mk (Below.refl w.heap.size w)
  clear hc hp h h2
  go_enter Try.func62, Try.ntmps62
  go_wp2_with ((with_reducible refine gate_dst (N := 10) rfl ?_); refine Kd.R_lit (Kd.int .u64) w.heap.size 29 ?hg (N := 10) ?hd (xs := ([a] : List Int)) (inner := [.int .u64 a]) (ok := fun _ => True) (okp := fun _ => True) ?hr ?hp (fun _ hk => hk) trivial HB0.out HB0.out.size (by simp) ?_; (case hd => rfl); (case hg => rfl); (case hr => first | (go_simp; done) | (go_simp; rfl)); (case hp => exact (Reps.one (show Kd.M (Kd.int .u64) _ _ _ a [.int .u64 a] from rfl) (Reps.none _ _))); intro vq W1 ho2 hb2_ hg_ hnew_; clear hg_ hnew_; have HO := Aside0.mk ho2; have HB := Aside0.mk hb2_; clear ho2 hb2_)
  go_loopg [7, 8] k (fun kq v7 v8 w' => ∃ (x : List Int) (q : Int), v8 = .int .i64 q ∧ Aside0 (hk_lng (hk_invStep n p) m kq x q = some s) ∧ Aside0 (Kd.R (Kd.int .u64) 29 w' w.heap.size (fun _ => True) v7 x) ∧ Aside0 (Below w.heap.size w w'))
  case atStart => exact ⟨[a], 2, rfl, H, HO, HB⟩
  case round =>
    clear HO HB H
    obtain ⟨x, q, rfl, H, HO, HB⟩ := hrel
    obtain ⟨A7, c7, e7⟩ := Kd.R_slice HO.out
    subst e7
    cases gk with
    | zero => exact absurd H.out (by unfold hk_lng; simp)
    | succ k1 =>
      have h := H.out
      unfold hk_lng at h
      by_cases c : (x.length : Int) < m
      · rw [if_pos c] at h
        obtain ⟨s2, hs2, h⟩ := Option.bind_eq_some_iff.1 h
        have HS2 := Aside0.mk hs2
        have HN := Aside0.mk h
        have c1 : decide ((x.length : Int) < m) = true := decide_eq_true c
        obtain ⟨z, hz⟩ : ∃ z : Int, mn q m = z := ⟨_, rfl⟩
        have hz2 : (if m < q then m else q) = z := hz
        rw [hz] at HS2
        clear h hs2 c hz
        go_wp2_with ((go_at_call 63; (with_reducible refine (hk_inv1.calls n A0 c0 p A7 c7 x z b s2 _ ?hc ?hp ?hs HS2.out).mono ?_); (case hc => exact (HB.out.cell (World.block_lt_of_cell? w _ HC.out)).trans HC.out); (case hp => exact Kd.V_mono (Kd.V_below HP.out HB.out) (fun _ _ => trivial)); (case hs => exact Kd.R_V HO.out); rintro e w5 ⟨v5, rfl, hR_, hB_⟩; have HO5 := Aside0.mk (Kd.R_lower hR_ HB.out.size); have HB5 := Aside0.mk (HB.out.trans (hB_.mono HB.out.size)); clear hR_ hB_))
        go_roundg k1
        case measure => omega
        case rel => exact ⟨s2, wrap64 (q * 2), rfl, HN, HO5, HB5⟩
      · rw [if_neg c] at h
        obtain rfl := Option.some.inj h
        have c1 : decide ((x.length : Int) < m) = false := decide_eq_false c
        clear h c
        go_wp2_with ((go_at_call 60; (with_reducible refine (series_cut.calls n A7 c7 x m r _ (Kd.R_reads' HO.out).2.2 (Kd.R_reads' HO.out).2.1 H2.out).mono ?_); rintro e w5 ⟨v5, rfl, hR_, hB_⟩; have HO5 := Aside0.mk (Kd.R_lower hR_ HB.out.size); have HB5 := Aside0.mk (HB.out.trans (hB_.mono HB.out.size)); clear hR_ hB_))
        go_ret
        exact ⟨v5, rfl, HO5.out, HB5.out⟩
def series_inv.f (n : Nat) (p : List Int) (m : Int) : Option (List Int) := (series_first.f p).bind fun a0 => (gold_Inv.f n a0).bind fun a => (hk_lng (hk_invStep n p) m 20 [a.1] 2).bind fun s => series_cut.f n s m
set_option maxHeartbeats 8000000 in
set_option maxRecDepth 100000 in
theorem series_inv.calls (k : Nat) (A0 : Option Addr) (c0 : Nat) (l0 : List Int) (a1 : Int) (r : List Int) (w : World) (hr0 : Kd.C (Kd.int .u64) w A0 l0.length l0) (hc0 : l0.length ≤ c0) (h : series_inv.f k l0 a1 = some r) :
    Calls Try.prog 50 #[.slice A0 l0.length c0, .int .i64 a1] w fun e w' => ∃ v0_ : Value, e = .returned (v0_) ∧ Kd.R (Kd.int .u64) 29 w' w.heap.size (fun _ => True) v0_ r ∧ Below w.heap.size w w' := by
  unfold series_inv.f at h
  obtain ⟨a0, h1, h⟩ := Option.bind_eq_some_iff.1 h
  obtain ⟨⟨a, e⟩, h2, h⟩ := Option.bind_eq_some_iff.1 h
  obtain ⟨s, h3, h4⟩ := Option.bind_eq_some_iff.1 h
  have HR0 := Aside0.mk hr0
  have HC0 := Aside0.mk hc0
  have H1 := Aside0.mk h1
  have H2 := Aside0.mk h2
  have H3 := Aside0.mk h3
  have H4 := Aside0.mk h4
  have HB := Aside0.mk ((Below.refl w.heap.size w).alloc (Nat.le_refl _) (.cells #[.slice A0 l0.length c0] 22))
  have HX := Aside0.mk (show (w.alloc (.cells #[.slice A0 l0.length c0] 22)).cell? ⟨w.heap.size, 0, none⟩ = some (.slice A0 l0.length c0) by simp)
  clear hr0 hc0 h h1 h2 h3 h4
  go_enter Try.func50, Try.ntmps50
  go_wp2_with (first | (go_at_call 61; (with_reducible refine (series_first.calls A0 c0 l0 a0 _ ?hr HC0.out H1.out).mono ?_); (case hr => exact Kd.C_below HR0.out HB.out); rintro e w5 ⟨rfl, hb5⟩; have HB5 := Aside0.mk (HB.out.trans ((hk_drawn_below hb5).mono HB.out.size)); have HX5 := Aside0.mk (((hk_drawn_below hb5).cell (World.block_lt_of_cell? _ _ HX.out)).trans HX.out); clear hb5) | (go_at_call 42; (with_reducible refine (gold_Inv.calls k a0 a e _ H2.out).mono ?_); rintro e w6 ⟨rfl, hb6⟩; have HX6 := Aside0.mk ((hb6.cell (World.block_lt_of_cell? _ _ HX5.out)).trans HX5.out); have HB6 := Aside0.mk (HB5.out.trans (hb6.mono HB5.out.size)); clear hb6) | (go_at_call 62; (with_reducible refine (hk_longerInv.calls k 20 A0 c0 l0 w.heap.size a a1 s r _ HX6.out ?hp H3.out H4.out).mono ?_); (case hp => exact hk_V_of_C (Kd.C_below HR0.out HB6.out) HC0.out); rintro e w7 ⟨v7, rfl, hR_, hB_⟩; have HO7 := Aside0.mk (Kd.R_lower hR_ HB6.out.size); have HB7 := Aside0.mk (HB6.out.trans (hB_.mono HB6.out.size)); clear hR_ hB_))
  go_ret
  exact ⟨v7, rfl, HO7.out, HB7.out⟩

/-! ### poly_longest: function 53 -/
def poly_longest.l0 : Nat → Int → List (List Int) → Int → Int → Option (Int)
  | 0, _, _, _, _ => none
  | k + 1, x3, x6, x7, x8 => if x8 < x7 then (if 0 ≤ x8 then (if x8 < (x6.length : Int) then (poly_longest.l0 k (mx x3 ((rd_L1 x6 x8).length : Int)) x6 x7 (wrap64 (x8 + 1))) else (none)) else (none)) else (some x3)
def poly_longest.f (k : Nat) (l0 : List (List Int)) : Option (Int) := poly_longest.l0 k 0 l0 (l0.length : Int) 0
set_option maxHeartbeats 8000000 in
set_option maxRecDepth 100000 in
theorem poly_longest.calls (k : Nat) (A0 : Option Addr) (c0 : Nat) (l0 : List (List Int)) (r : Int) (w : World) (hr0 : Kd.C (Kd.slice 29 (Kd.int .u64)) w A0 l0.length l0) (hc0 : l0.length ≤ c0) (h : poly_longest.f k l0 = some r) :
    Calls Try.prog 53 #[.slice A0 l0.length c0] w fun e w' => e = .returned (.int .i64 r) ∧ Below w.heap.size w w' := by
  have HR0 := Aside0.mk hr0
  have HC0 := Aside0.mk hc0
  clear hr0 hc0
  have HB := Aside0.mk (Below.refl w.heap.size w)
  have H : (poly_longest.l0 k 0 l0 (l0.length : Int) 0) = some r := h
  clear h
  have H' := Aside0.mk H
  clear H
  go_enter Try.func53, Try.ntmps53
  go_wp2
  go_loopg [3, 8] k (fun kq v3 v8 w' => ∃ (x3_1 : Int) (x8_1 : Int), v3 = .int .i64 x3_1 ∧ v8 = .int .i64 x8_1 ∧ Aside0 (poly_longest.l0 kq x3_1 l0 (l0.length : Int) x8_1 = some r) ∧ Aside0 (kq ≤ k) ∧ Aside0 (Below w.heap.size w w'))
  case atStart => exact ⟨(0), (0), (by first | rfl | (simp; done) | (simp [*]; done)), (by first | rfl | (simp; done) | (simp [*]; done)), H', ⟨Nat.le_refl _⟩, ⟨by repeat (first | (with_reducible first | exact HB.out | apply below_alloc | apply pw_below_drewN | apply below_drew1) | exact HB.out)⟩⟩
  case round =>
    clear H'
    obtain ⟨x3_1, x8_1, rfl, rfl, HA, HK1, HB⟩ := hrel
    cases gk with
    | zero => exact absurd HA.out (by simp [poly_longest.l0])
    | succ k1 =>
      have H := HA.out
      clear HA
      simp only [poly_longest.l0] at H
      by_cases c2 : x8_1 < (l0.length : Int)
      · rw [if_pos c2] at H
        have c2b0 : decide (x8_1 < (l0.length : Int)) = true := decide_eq_true c2
        clear c2
        by_cases c3 : 0 ≤ x8_1
        · rw [if_pos c3] at H
          have c3b0 : decide (0 ≤ x8_1) = true := decide_eq_true c3
          clear c3
          by_cases c4 : x8_1 < (l0.length : Int)
          · rw [if_pos c4] at H
            have c4b0 : decide (x8_1 < (l0.length : Int)) = true := decide_eq_true c4
            clear c4
            obtain ⟨ji5, hji5⟩ : ∃ j_ : Int, (mx x3_1 ((rd_L1 l0 x8_1).length : Int)) = j_ := ⟨_, rfl⟩
            replace H : (poly_longest.l0 k1 ji5 l0 (l0.length : Int) (wrap64 (x8_1 + 1))) = some r := by first | (rw [hji5] at H; exact H) | (simp only [hji5] at H ⊢; exact H)
            have hji5_ : (if x3_1 < ((rd_L1 l0 x8_1).length : Int) then ((rd_L1 l0 x8_1).length : Int) else x3_1) = ji5 := hji5
            have H' := Aside0.mk H
            clear H
            have p307 : 0 ≤ (x8_1 : Int) := of_decide_eq_true (by first | (with_reducible assumption) | assumption)
            have q307 : x8_1 < (l0.length : Int) := of_decide_eq_true (by first | (with_reducible assumption) | assumption)
            obtain ⟨ad307, A307_0, c307_0, e307, hx307_0, hl307_0, hi307_0⟩ := at_L1 HR0.out x8_1 p307 q307
            cases e307
            replace hx307_0 := (HB.out.cell (World.block_lt_of_cell? w _ hx307_0)).trans hx307_0
            have HR307_0 := Aside0.mk hi307_0
            have HC307_0 := Aside0.mk hl307_0
            clear hi307_0 hl307_0
            replace p307 := eq_true p307
            replace q307 := eq_true q307
            go_wp2
            (first | go_roundg k1 | (simp only [add_plain] at *; go_roundg k1))
            case measure => have := HK1.out; omega
            case rel => exact ⟨(ji5), (wrap64 (x8_1 + 1)), (by first | rfl | (simp; done) | (simp only [← hji5] <;> (first | rfl | simp)) | (simp [*]; done)), (by first | rfl | (simp; done) | (simp [*]; done)), H', ⟨by have := HK1.out; omega⟩, ⟨by repeat (first | (with_reducible first | exact HB.out | apply below_alloc | apply pw_below_drewN | apply below_drew1) | exact HB.out)⟩⟩
          · rw [if_neg c4] at H
            exact absurd H (by simp)
        · rw [if_neg c3] at H
          exact absurd H (by simp)
      · rw [if_neg c2] at H
        have c2b0 : decide (x8_1 < (l0.length : Int)) = false := decide_eq_false c2
        clear c2
        obtain rfl := Option.some.inj H
        go_wp2
        go_ret
        exact ⟨by first | rfl | (simp [errW_none, errW_some] <;> rfl) | (simp [*, errW_none, errW_some] <;> rfl), by repeat (first | (with_reducible first | exact HB.out | apply below_alloc | apply pw_below_drewN | apply below_drew1) | exact HB.out)⟩

/-! ### poly_coefficient: function 54 -/
def poly_coefficient.f (l0 : List Int) (a1 : Int) : Option (Int) := if a1 < (l0.length : Int) then (if 0 ≤ a1 then (some (rd l0 a1)) else (none)) else (some 0)
set_option maxHeartbeats 8000000 in
set_option maxRecDepth 100000 in
theorem poly_coefficient.calls (A0 : Option Addr) (c0 : Nat) (l0 : List Int) (a1 : Int) (r : Int) (w : World) (hr0 : Kd.C (Kd.int .u64) w A0 l0.length l0) (hc0 : l0.length ≤ c0) (h : poly_coefficient.f l0 a1 = some r) :
    Calls Try.prog 54 #[.slice A0 l0.length c0, .int .i64 a1] w fun e w' => e = .returned (.int .u64 r) ∧ Drawn0 w w' := by
  have HR0 := Aside0.mk hr0
  have HC0 := Aside0.mk hc0
  clear hr0 hc0
  have H : (if a1 < (l0.length : Int) then (if 0 ≤ a1 then (some (rd l0 a1)) else (none)) else (some 0)) = some r := h
  clear h
  by_cases c3 : a1 < (l0.length : Int)
  · rw [if_pos c3] at H
    have c3b0 : decide (a1 < (l0.length : Int)) = true := decide_eq_true c3
    clear c3
    by_cases c4 : 0 ≤ a1
    · rw [if_pos c4] at H
      have c4b0 : decide (0 ≤ a1) = true := decide_eq_true c4
      clear c4
      obtain rfl := Option.some.inj H
      have p308 : 0 ≤ (a1 : Int) := of_decide_eq_true (by first | (with_reducible assumption) | assumption)
      have q308 : a1 < (l0.length : Int) := of_decide_eq_true (by first | (with_reducible assumption) | assumption)
      obtain ⟨ad308, e308, hx308_0⟩ := Kd.at_int HR0.out a1 p308 q308
      cases e308
      replace p308 := eq_true p308
      replace q308 := eq_true q308
      go_enter Try.func54, Try.ntmps54
      go_wp2
      go_ret
      exact ⟨by first | rfl | (simp; done) | (simp [*]; done), by repeat (first | exact Drawn0.refl _ | apply Drawn0.step)⟩
    · rw [if_neg c4] at H
      exact absurd H (by simp)
  · rw [if_neg c3] at H
    have c3b0 : decide (a1 < (l0.length : Int)) = false := decide_eq_false c3
    clear c3
    obtain rfl := Option.some.inj H
    go_enter Try.func54, Try.ntmps54
    go_wp2
    go_ret
    exact ⟨by first | rfl | (simp; done) | (simp [*]; done), by repeat (first | exact Drawn0.refl _ | apply Drawn0.step)⟩

/-! ### poly_Add: function 43 -/
mutual
def poly_Add.l0 : Nat → List (List Int) → List Int → Int → Int → Option (List Int)
  | 0, _, _, _, _ => none
  | k + 1, x0, x3, x11, x12 => if x12 < x11 then (poly_Add.l1 k x0 x3 x12 x11 x12 x0 (x0.length : Int) 0) else ((poly_Trim.f k x3).bind fun t313 => (some t313))
def poly_Add.l1 : Nat → List (List Int) → List Int → Int → Int → Int → List (List Int) → Int → Int → Option (List Int)
  | 0, _, _, _, _, _, _, _, _ => none
  | k + 1, x0, x3, x4, x11, x12, x15, x16, x17 => if x17 < x16 then (if 0 ≤ x17 then (if x17 < (x15.length : Int) then (if 0 ≤ x4 then (if x4 < (x3.length : Int) then ((poly_coefficient.f (rd_L1 x15 x17) x4).bind fun t318 => ((gold_Add.f (rd x3 x4) t318).bind fun t319 => (poly_Add.l1 k x0 (x3.set (x4 : Int).toNat t319) x4 x11 x12 x15 x16 (wrap64 (x17 + 1))))) else (none)) else (none)) else (none)) else (none)) else (poly_Add.l0 k x0 x3 x11 (wrap64 (x12 + 1)))
end
def poly_Add.f (k : Nat) (l0 : List (List Int)) : Option (List Int) := (poly_longest.f k l0).bind fun t309 => (if 0 ≤ t309 then (if (t309 : Int).toNat ≤ 35184372088832 then ((some (List.replicate (t309 : Int).toNat 0 : List Int)).bind fun y310 => (poly_Add.l0 k l0 y310 (y310.length : Int) 0)) else (none)) else (none))
def poly_Add.T8 : Bool × List (List Nat × List Nat) := (true, [([], []), ([], []), ([], []), ([], []), ([2, 3], [2, 3]), ([4], [4]), ([], []), ([], []), ([6, 7], [6, 7]), ([5, 8, 8], [5, 8]), ([0, 1, 0, 1, 2, 3, 4, 5, 6, 7, 8, 9], [0, 1]), ([10, 9, 9, 0, 1, 2, 3, 4, 5, 6, 7, 8, 9], [9, 10])])
def poly_Add.B8 : List Nat := [0, 0, 0, 0, 12, 28, 0, 0, 192, 508, 1023, 2047]
theorem poly_Add.tab8 : rtab .any (opsOf Try.f43 8) = poly_Add.T8 := by kernel_rfl
theorem poly_Add.bits8 : waitsOk poly_Add.T8.2 poly_Add.B8 = true := by kernel_rfl
set_option maxHeartbeats 8000000 in
set_option maxRecDepth 100000 in
theorem poly_Add.calls (k : Nat) (A0 : Option Addr) (c0 : Nat) (l0 : List (List Int)) (r : List Int) (w : World) (hr0 : Kd.C (Kd.slice 29 (Kd.int .u64)) w A0 l0.length l0) (hc0 : l0.length ≤ c0) (h : poly_Add.f k l0 = some r) :
    Calls Try.prog 43 #[.slice A0 l0.length c0] w fun e w' => ∃ v0_ : Value, e = .returned (v0_) ∧ Kd.R (Kd.int .u64) 29 w' w.heap.size (fun _ => True) v0_ r ∧ Below w.heap.size w w' := by
  have HR0 := Aside0.mk hr0
  have HC0 := Aside0.mk hc0
  clear hr0 hc0
  have HB := Aside0.mk (Below.refl w.heap.size w)
  have H : ((poly_longest.f k l0).bind fun t309 => (if 0 ≤ t309 then (if (t309 : Int).toNat ≤ 35184372088832 then ((some (List.replicate (t309 : Int).toNat 0 : List Int)).bind fun y310 => (poly_Add.l0 k l0 y310 (y310.length : Int) 0)) else (none)) else (none))) = some r := h
  clear h
  replace H := Option.bind_eq_some_iff.mp H
  obtain ⟨t309, A20, H⟩ := H
  replace H : (if 0 ≤ t309 then (if (t309 : Int).toNat ≤ 35184372088832 then ((some (List.replicate (t309 : Int).toNat 0 : List Int)).bind fun y310 => (poly_Add.l0 k l0 y310 (y310.length : Int) 0)) else (none)) else (none)) = some r := H
  have A2 := Aside0.mk A20
  clear A20
  by_cases c3 : 0 ≤ t309
  · rw [if_pos c3] at H
    have c3b0 := eq_true c3
    have c3b1 : decide (0 ≤ t309) = true := decide_eq_true c3
    clear c3
    by_cases c4 : (t309 : Int).toNat ≤ 35184372088832
    · rw [if_pos c4] at H
      have c4b0 := eq_true c4
      have c4b1 : decide ((t309 : Int).toNat ≤ 35184372088832) = true := decide_eq_true c4
      clear c4
      obtain ⟨y310, hy310⟩ : ∃ y_ : List Int, y_ = (List.replicate (t309 : Int).toNat 0) := ⟨_, rfl⟩
      replace H : (poly_Add.l0 k l0 y310 (y310.length : Int) 0) = some r := by first | (rw [hy310]; with_reducible exact H) | (have H2_ := (Option.bind_some _ _).symm.trans H; rw [hy310]; with_reducible exact H2_) | (have H2_ := (Option.bind_some _ _).symm.trans H; with_reducible exact H2_) | with_reducible exact H | (rw [hy310]; exact H) | exact H
      have Ny310 := Aside0.mk hy310
      clear hy310
      have H' := Aside0.mk H
      clear H
      go_enter Try.func43, Try.ntmps43
      go_wp2_with (first | ((with_reducible refine gate_callee (f := 53) rfl ?_); refine goesL_ (some 8) rfl rfl Try.func53 (by kernel_rfl) rfl #[.slice A0 l0.length c0] rfl (by (try simp only [List.map_toArray, List.map_cons, List.map_nil]); first | done | rfl | (simp only [List.length_drop, List.length_take]; rfl)) ?_; (with_reducible refine (poly_longest.calls k _ _ l0 t309 _ ?side1 ?side2 A2.out).mono ?_); (case side1 => repeat (first | exact HR0.out | (with_reducible refine Kd.C_alloc ?_ _) | (with_reducible refine Kd.C_drewN ?_ _) | (with_reducible refine Kd.C_drew ?_))); (case side2 => exact HC0.out); rintro e w5 ⟨rfl, hb⟩; refine ⟨_, rfl, ?_⟩; have n0_ := Aside0.mk (below_step (by repeat (first | (with_reducible first | exact HB.out | apply below_alloc | apply pw_below_drewN | apply below_drew1) | exact HB.out)) hb); clear HB; have HB := n0_; clear n0_; (try clear hb); (try clear hb2); (try clear hk); (try clear hi)) | ((with_reducible refine gate_dst (N := 9) rfl ?_); refine Kd.R_make (Kd.int .u64) _ 29 rfl (N := 9) rfl 22 _ _ rfl t309 rfl rfl Try.underlying22 (.int .u64 0) 8 info29 rfl (by decide) (by omega) 0 (ok := fun _ => True) (okp := fun _ => True) rfl (fun _ hk => hk) trivial (of_decide_eq_true (by first | (with_reducible assumption) | assumption)) (Nat.le_trans (Nat.mul_le_mul_right _ (of_decide_eq_true (by first | (with_reducible assumption) | assumption) : t309.toNat ≤ 35184372088832)) (by omega)) (Below.refl _ _) (Nat.le_refl _) ?_; intro v311 w6 ho7 hb hg_ hnew_; clear hg_ hnew_; (first | rw [← Ny310.out] at ho7 | (simp only [Int.reduceToNat] at ho7; rw [← Ny310.out] at ho7)); have n0_ := Aside0.mk (Kd.R_lower ho7 (below_size (by repeat (first | (with_reducible first | exact HB.out | apply below_alloc | apply pw_below_drewN | apply below_drew1) | exact HB.out)))); have n1_ := Aside0.mk (below_step (by repeat (first | (with_reducible first | exact HB.out | apply below_alloc | apply pw_below_drewN | apply below_drew1) | exact HB.out)) hb); clear HB; have HO312 := n0_; have HB := n1_; clear n0_ n1_; clear hb ho7; obtain ⟨Ao8, co8, eo8⟩ := Kd.R_slice HO312.out; subst eo8))
      go_loopg [12] k (fun kq v12 w' => ∃ (x3_1 : List Int) (x12_1 : Int), v12 = .int .i64 x12_1 ∧ Aside0 (poly_Add.l0 kq l0 x3_1 (y310.length : Int) x12_1 = some r) ∧ Aside0 (kq ≤ k) ∧ Aside0 (Kd.R (Kd.int .u64) 29 w' w.heap.size (fun _ => True) (.slice Ao8 y310.length co8) x3_1) ∧ Aside0 (Below w.heap.size w w'))
      case atStart => exact ⟨(y310), (0), (by first | rfl | (simp; done) | (simp [*]; done)), H', ⟨Nat.le_refl _⟩, ⟨by (with_reducible repeat (first | apply Kd.R_alloc | apply Kd.R_drewN | apply Kd.R_drew)); exact HO312.out⟩, ⟨by repeat (first | (with_reducible first | exact HB.out | apply below_alloc | apply pw_below_drewN | apply below_drew1) | exact HB.out)⟩⟩
      case round =>
        clear H'
        try clear p2
        try clear c3
        try clear c3b0
        try clear c3b1
        try clear c4
        try clear c4b0
        try clear c4b1
        try clear c5
        obtain ⟨x3_1, x12_1, rfl, HA, HK1, HO_3, HB⟩ := hrel
        have hl3_1 := (Kd.R_reads' HO_3.out).1
        rw [hl3_1] at HO_3
        (try simp only [hl3_1])
        cases gk with
        | zero => exact absurd HA.out (by simp [poly_Add.l0])
        | succ k1 =>
          have H := HA.out
          clear HA
          simp only [poly_Add.l0] at H
          by_cases c9 : x12_1 < (y310.length : Int)
          · rw [if_pos c9] at H
            have c9b0 : decide (x12_1 < (y310.length : Int)) = true := decide_eq_true c9
            (try (have c9b0_0 := c9b0; simp only [hl3_1] at c9b0_0))
            clear c9
            have H' := Aside0.mk H
            clear H
            go_wp2
            go_loopg [17] k1 (fun kq v17 w' => ∃ (x3_2 : List Int) (x17_2 : Int), v17 = .int .i64 x17_2 ∧ Aside0 (poly_Add.l1 kq l0 x3_2 x12_1 (y310.length : Int) x12_1 l0 (l0.length : Int) x17_2 = some r) ∧ Aside0 (kq ≤ k1) ∧ Aside0 (Kd.R (Kd.int .u64) 29 w' w.heap.size (fun _ => True) (.slice Ao8 x3_1.length co8) x3_2) ∧ Aside0 (Below w.heap.size w w'))
            case atStart => exact ⟨(x3_1), (0), (by first | rfl | (simp; done) | (simp [*]; done)), H', ⟨Nat.le_refl _⟩, ⟨by (try simp only [hl3_1]); (with_reducible repeat (first | apply Kd.R_alloc | apply Kd.R_drewN | apply Kd.R_drew)); exact HO_3.out⟩, ⟨by repeat (first | (with_reducible first | exact HB.out | apply below_alloc | apply pw_below_drewN | apply below_drew1) | exact HB.out)⟩⟩
            case round =>
              clear H'
              try clear p2
              try clear c3
              try clear c3b0
              try clear c3b1
              try clear c4
              try clear c4b0
              try clear c4b1
              try clear c5
              try clear c9
              try clear c9b0
              try clear p2
              obtain ⟨x3_2, x17_2, rfl, HA, HK2, HO_3, HB⟩ := hrel
              have hl3_2 := (Kd.R_reads' HO_3.out).1
              rw [hl3_2] at HO_3
              (try simp only [hl3_2])
              cases gk with
              | zero => exact absurd HA.out (by simp [poly_Add.l1])
              | succ k2 =>
                have H := HA.out
                clear HA
                simp only [poly_Add.l1] at H
                by_cases c10 : x17_2 < (l0.length : Int)
                · rw [if_pos c10] at H
                  have c10b0 : decide (x17_2 < (l0.length : Int)) = true := decide_eq_true c10
                  (try (have c10b0_0 := c10b0; simp only [hl3_1] at c10b0_0))
                  (try (have c10b0_1 := c10b0; simp only [hl3_2] at c10b0_1))
                  clear c10
                  by_cases c11 : 0 ≤ x17_2
                  · rw [if_pos c11] at H
                    have c11b0 : decide (0 ≤ x17_2) = true := decide_eq_true c11
                    clear c11
                    by_cases c12 : x17_2 < (l0.length : Int)
                    · rw [if_pos c12] at H
                      have c12b0 : decide (x17_2 < (l0.length : Int)) = true := decide_eq_true c12
                      (try (have c12b0_0 := c12b0; simp only [hl3_1] at c12b0_0))
                      (try (have c12b0_1 := c12b0; simp only [hl3_2] at c12b0_1))
                      clear c12
                      by_cases c13 : 0 ≤ x12_1
                      · rw [if_pos c13] at H
                        have c13b0 : decide (0 ≤ x12_1) = true := decide_eq_true c13
                        clear c13
                        by_cases c14 : x12_1 < (x3_2.length : Int)
                        · rw [if_pos c14] at H
                          have c14b0 : decide (x12_1 < (x3_2.length : Int)) = true := decide_eq_true c14
                          (try (have c14b0_0 := c14b0; simp only [hl3_1] at c14b0_0))
                          (try (have c14b0_1 := c14b0; simp only [hl3_2] at c14b0_1))
                          clear c14
                          replace H := Option.bind_eq_some_iff.mp H
                          obtain ⟨t318, A150, H⟩ := H
                          replace H : ((gold_Add.f (rd x3_2 x12_1) t318).bind fun t319 => (poly_Add.l1 k2 l0 (x3_2.set (x12_1 : Int).toNat t319) x12_1 (y310.length : Int) x12_1 l0 (l0.length : Int) (wrap64 (x17_2 + 1)))) = some r := H
                          have A15 := Aside0.mk A150
                          clear A150
                          replace H := Option.bind_eq_some_iff.mp H
                          obtain ⟨t319, A160, H⟩ := H
                          replace H : (poly_Add.l1 k2 l0 (x3_2.set (x12_1 : Int).toNat t319) x12_1 (y310.length : Int) x12_1 l0 (l0.length : Int) (wrap64 (x17_2 + 1))) = some r := H
                          have A16 := Aside0.mk A160
                          clear A160
                          obtain ⟨y320, hy320⟩ : ∃ y_ : List Int, y_ = (x3_2.set (x12_1 : Int).toNat t319) := ⟨_, rfl⟩
                          replace H : (poly_Add.l1 k2 l0 y320 x12_1 (y310.length : Int) x12_1 l0 (l0.length : Int) (wrap64 (x17_2 + 1))) = some r := by first | (rw [hy320]; with_reducible exact H) | (have H2_ := (Option.bind_some _ _).symm.trans H; rw [hy320]; with_reducible exact H2_) | (have H2_ := (Option.bind_some _ _).symm.trans H; with_reducible exact H2_) | with_reducible exact H | (rw [hy320]; exact H) | exact H
                          have Ny320 := Aside0.mk hy320
                          clear hy320
                          have H' := Aside0.mk H
                          clear H
                          have p316 : 0 ≤ (x17_2 : Int) := of_decide_eq_true (by first | (with_reducible assumption) | assumption)
                          have q316 : x17_2 < (l0.length : Int) := of_decide_eq_true (by first | (with_reducible assumption) | assumption)
                          obtain ⟨ad316, A316_0, c316_0, e316, hx316_0, hl316_0, hi316_0⟩ := at_L1 HR0.out x17_2 p316 q316
                          cases e316
                          replace hx316_0 := (HB.out.cell (World.block_lt_of_cell? w _ hx316_0)).trans hx316_0
                          have HR316_0 := Aside0.mk hi316_0
                          have HC316_0 := Aside0.mk hl316_0
                          clear hi316_0 hl316_0
                          replace p316 := eq_true p316
                          replace q316 := eq_true q316
                          try go_wp2
                          have n0_ := Aside0.mk (Kd.R_drew HO_3.out)
                          have n1_ := Aside0.mk (below_drew1 HB.out)
                          clear HO_3
                          clear HB
                          have HO_3 := n0_
                          have HB := n1_
                          clear n0_ n1_
                          have p317 : 0 ≤ (x12_1 : Int) := of_decide_eq_true (by first | (with_reducible assumption) | assumption)
                          have q317 : x12_1 < (x3_2.length : Int) := of_decide_eq_true (by first | (with_reducible assumption) | assumption)
                          (try (first | (have hq_ := Kd.R_reads' HO_3.out; clear hq_) | (obtain ⟨AoQ317, coQ317, eoQ317⟩ := Kd.R_slice HO_3.out; subst eoQ317)))
                          obtain ⟨ad317, e317, hx317_0⟩ := Kd.at_int (Kd.R_reads' HO_3.out).2.2 x12_1 p317 q317
                          cases e317
                          replace p317 := eq_true p317
                          replace q317 := eq_true q317
                          refine start_ (n := 12) (S := fun w' => w'.cell? (ad317.add (x12_1).toNat) = some (.int .u64 (rd x3_2 x12_1))) (ds := [11]) #[false, false, false, false, false, false, false, false, false, false, false, false] (by kernel_rfl) rfl rfl (hx317_0) (fun hHeld => ?_); refine with_tabW poly_Add.tab8 poly_Add.bits8 (fun HT_ HW_ => ?_)
                          generalize wr.drew = w18 at HO_3 HB hx317_0 hHeld ⊢
                          refine pure_ (i := 0) (N := some 21) (v := ?_) (a' := ?_) #[true, false, false, false, false, false, false, false, false, false, false, false] rfl rfl (any_of HT_.out (by kernel_rfl)) (fun _ _ _ h => h) (Or.inl ⟨by rfl, ?_⟩) ?_ ?_
                          rotate_left
                          · intro w'
                            go_simp
                            with_reducible rfl
                          rotate_left
                          · simp only [Act.put, List.setIfInBounds_toArray, List.set_cons_zero, List.set_cons_succ, i64_w, i32_w]
                            rfl
                          refine pure_ (i := 1) (N := some 22) (v := ?_) (a' := ?_) #[true, true, false, false, false, false, false, false, false, false, false, false] rfl rfl (any_of HT_.out (by kernel_rfl)) (fun _ _ _ h => h) (Or.inl ⟨by rfl, ?_⟩) ?_ ?_
                          rotate_left
                          · intro w'
                            go_simp
                            with_reducible rfl
                          rotate_left
                          · simp only [Act.put, List.setIfInBounds_toArray, List.set_cons_zero, List.set_cons_succ, i64_w, i32_w]
                            rfl
                          refine pure_ (i := 2) (N := some 23) (v := ?_) (a' := ?_) #[true, true, true, false, false, false, false, false, false, false, false, false] rfl rfl (any_of HT_.out (by kernel_rfl)) (fun _ _ _ h => h) (Or.inl ⟨by rfl, ?_⟩) ?_ ?_
                          rotate_left
                          · intro w'
                            go_simp
                            with_reducible rfl
                          rotate_left
                          · simp only [Act.put, List.setIfInBounds_toArray, List.set_cons_zero, List.set_cons_succ, i64_w, i32_w]
                            rfl
                          refine pure_ (i := 3) (N := some 24) (v := ?_) (a' := ?_) #[true, true, true, true, false, false, false, false, false, false, false, false] rfl rfl (any_of HT_.out (by kernel_rfl)) (fun _ _ _ h => h) (Or.inl ⟨by rfl, ?_⟩) ?_ ?_
                          rotate_left
                          · intro w'
                            go_simp
                            with_reducible rfl
                          rotate_left
                          · simp only [Act.put, List.setIfInBounds_toArray, List.set_cons_zero, List.set_cons_succ, i64_w, i32_w]
                            rfl
                          refine pure_ (i := 4) (N := some 25) (v := ?_) (a' := ?_) #[true, true, true, true, true, false, false, false, false, false, false, false] rfl rfl (any_of HT_.out (by kernel_rfl)) (fun _ _ _ h => h) (Or.inl ⟨by rfl, ?_⟩) ?_ ?_
                          rotate_left
                          · intro w'
                            go_simp
                            with_reducible rfl
                          rotate_left
                          · simp only [Act.put, List.setIfInBounds_toArray, List.set_cons_zero, List.set_cons_succ, i64_w, i32_w]
                            rfl
                          refine pure_ (i := 6) (N := some 27) (v := ?_) (a' := ?_) #[true, true, true, true, true, false, true, false, false, false, false, false] rfl rfl (any_of HT_.out (by kernel_rfl)) (fun _ _ _ h => h) (Or.inl ⟨by rfl, ?_⟩) ?_ ?_
                          rotate_left
                          · intro w'
                            go_simp
                            with_reducible rfl
                          rotate_left
                          · simp only [Act.put, List.setIfInBounds_toArray, List.set_cons_zero, List.set_cons_succ, i64_w, i32_w]
                            rfl
                          refine pure_ (i := 7) (N := some 28) (v := ?_) (a' := ?_) #[true, true, true, true, true, false, true, true, false, false, false, false] rfl rfl (any_of HT_.out (by kernel_rfl)) (fun _ _ _ h => h) (Or.inl ⟨by rfl, ?_⟩) ?_ ?_
                          rotate_left
                          · intro w'
                            go_simp
                            with_reducible rfl
                          rotate_left
                          · simp only [Act.put, List.setIfInBounds_toArray, List.set_cons_zero, List.set_cons_succ, i64_w, i32_w]
                            rfl
                          refine take_ (i := 5) (N := some 26) (v := ?_) (a' := ?_) #[true, true, true, true, true, true, true, true, false, false, false, false] rfl rfl (take_ofW HT_.out HW_.out (by kernel_rfl)) (fun _ _ _ h => h) (Or.inl ⟨by rfl, ?_⟩) hHeld ?_ ?_
                          rotate_left
                          · intro w' s0
                            go_simp
                            with_reducible rfl
                          rotate_left
                          · simp only [Act.put, List.setIfInBounds_toArray, List.set_cons_zero, List.set_cons_succ, i64_w, i32_w]
                            rfl
                          refine one_ (i := 8) (N := some 29) #[true, true, true, true, true, true, true, true, true, false, false, false] rfl rfl (one_of HT_.out (by kernel_rfl)) (by decide) (fun K hK => ?_)
                          refine goes_ Try.func54 (by kernel_rfl) rfl #[.slice A316_0 (rd_L1 l0 x17_2).length c316_0, .int .i64 x12_1] (by rfl) rfl rfl (by (try simp only [List.map_toArray, List.map_cons, List.map_nil]); first | done | rfl | (simp only [List.length_drop, List.length_take]; rfl)) ?_
                          with_reducible refine (poly_coefficient.calls _ _ (rd_L1 l0 x17_2) x12_1 t318 _ ?side1 ?side2 A15.out).mono ?_
                          (case side1 => repeat (first | exact (Kd.C_below HR316_0.out HB.out) | (with_reducible refine Kd.C_alloc ?_ _) | (with_reducible refine Kd.C_drewN ?_ _) | (with_reducible refine Kd.C_drew ?_)))
                          (case side2 => exact HC316_0.out)
                          rintro e w' ⟨rfl, ⟨nd, rfl⟩⟩
                          refine ⟨_, rfl, ?_⟩
                          refine hK.out _ _ (hHeld) (fun hHeld => ?_)
                          clear hK K
                          refine norm_ (a' := ?_) ?_ ?_
                          rotate_left
                          · show Act.put _ (some 29) _ = _
                            simp only [Act.put, List.setIfInBounds_toArray, List.set_cons_zero, List.set_cons_succ, i64_w, i32_w]
                            rfl
                          refine one_ (i := 9) (N := some 30) #[true, true, true, true, true, true, true, true, true, true, false, false] rfl rfl (one_of HT_.out (by kernel_rfl)) (by decide) (fun K hK => ?_)
                          refine goes_ Try.func29 (by kernel_rfl) rfl #[.int .u64 (rd x3_2 x12_1), .int .u64 t318] (by rfl) rfl rfl (by (try simp only [List.map_toArray, List.map_cons, List.map_nil]); first | done | rfl | (simp only [List.length_drop, List.length_take]; rfl)) ?_
                          with_reducible refine (gold_Add.calls (rd x3_2 x12_1) t318 t319 _ A16.out).mono ?_
                          rintro e w19 ⟨rfl, hb⟩
                          have HS0_ := (hb.cell (World.block_lt_of_cell? _ _ (hHeld))).trans (hHeld)
                          refine ⟨_, rfl, ?_⟩
                          have n0_ := Aside0.mk (Kd.R_below (by (with_reducible repeat (first | apply Kd.R_alloc | apply Kd.R_drewN | apply Kd.R_drew)); exact HO_3.out) hb)
                          have n1_ := Aside0.mk (below_step (by repeat (first | (with_reducible first | exact HB.out | apply below_alloc | apply pw_below_drewN | apply below_drew1) | exact HB.out)) hb)
                          clear HO_3
                          clear HB
                          have HO_3 := n0_
                          have HB := n1_
                          clear n0_ n1_
                          (try clear hb)
                          (try clear hb2)
                          (try clear hk)
                          (try clear hi)
                          have p17 : 0 ≤ (x12_1 : Int) := of_decide_eq_true (by first | (with_reducible assumption) | assumption)
                          have q17 : (x12_1 : Int) < ((x3_2.length : Int) : Int) := of_decide_eq_true (by first | (with_reducible assumption) | assumption)
                          obtain ⟨go17, co17, eo17, gb17, gl17, cl17, HG17⟩ := Kd.R_form HO_3.out (by omega)
                          (first | cases eo17 | (injection eo17 with ea_ en_ ec_; (first | subst ea_ | (injection ea_ with ea_; subst ea_)); subst ec_; clear en_))
                          have GB17 := Aside0.mk gb17
                          have GG17 := Aside0.mk HG17
                          clear gb17 gl17 HG17
                          (first | simp only [add_plain] at hx317_0 | skip)
                          obtain ⟨hx17_0, hf17_0⟩ := Kd.R_celln 0 HO_3.out (x12_1 : Int) p17 q17
                          replace p17 := eq_true p17
                          replace q17 := eq_true q17
                          have HP20 := Kd.R_putn HO_3.out (x12_1 : Int) t319
                          rw [← Ny320.out] at HP20
                          have HQ20 := Aside0.mk HP20
                          clear HP20
                          refine hK.out _ _ (HS0_) (fun hHeld => ?_)
                          clear hK K
                          refine norm_ (a' := ?_) ?_ ?_
                          rotate_left
                          · show Act.put _ (some 30) _ = _
                            simp only [Act.put, List.setIfInBounds_toArray, List.set_cons_zero, List.set_cons_succ, i64_w, i32_w]
                            rfl
                          refine pure_ (i := 10) (N := some 31) (v := ?_) (a' := ?_) #[true, true, true, true, true, true, true, true, true, true, true, false] rfl rfl (any_of HT_.out (by kernel_rfl)) (fun _ _ _ h => h) (Or.inl ⟨by rfl, ?_⟩) ?_ ?_
                          rotate_left
                          · intro w'
                            go_simp
                            with_reducible rfl
                          rotate_left
                          · simp only [Act.put, List.setIfInBounds_toArray, List.set_cons_zero, List.set_cons_succ, i64_w, i32_w]
                            rfl
                          refine last_ (i := 11) (N := none) #[true, true, true, true, true, true, true, true, true, true, true, true] rfl rfl (one_of HT_.out (by kernel_rfl)) (by decide) (fun K hK => ?_)
                          refine skip_ (w1 := ?_) (by rfl) rfl ?_ ?_
                          rotate_left
                          · go_simp
                            rfl
                          refine hK.out _ _ ?_
                          clear hK K
                          refine done_ (done_of HT_.out (by kernel_rfl)) ?_
                          try go_wp2
                          (try simp only [← hl3_2])
                          (first | go_roundg k2 | (simp only [add_plain] at *; go_roundg k2))
                          case measure => have := HK1.out; have := HK2.out; omega
                          case rel => exact ⟨(y320), (wrap64 (x17_2 + 1)), (by first | rfl | (simp; done) | (simp [*]; done)), H', ⟨by have := HK1.out; have := HK2.out; omega⟩, ⟨by (try simp only [hl3_1]); (try simp only [hl3_2]); (with_reducible repeat (first | apply Kd.R_alloc | apply Kd.R_drewN | apply Kd.R_drew)); exact HQ20.out⟩, ⟨by repeat (first | (with_reducible first | exact HB.out | apply below_alloc | apply pw_below_drewN | apply below_drew1 | refine below_set ?_ GB17.out) | exact HB.out)⟩⟩
                        · rw [if_neg c14] at H
                          exact absurd H (by simp)
                      · rw [if_neg c13] at H
                        exact absurd H (by simp)
                    · rw [if_neg c12] at H
                      exact absurd H (by simp)
                  · rw [if_neg c11] at H
                    exact absurd H (by simp)
                · rw [if_neg c10] at H
                  have c10b0 : decide (x17_2 < (l0.length : Int)) = false := decide_eq_false c10
                  (try (have c10b0_0 := c10b0; simp only [hl3_1] at c10b0_0))
                  (try (have c10b0_1 := c10b0; simp only [hl3_2] at c10b0_1))
                  clear c10
                  have H' := Aside0.mk H
                  clear H
                  go_wp2
                  (try simp only [← hl3_1, ← hl3_2])
                  (first | go_roundg k2 | (simp only [add_plain] at *; go_roundg k2))
                  case measure => have := HK1.out; have := HK2.out; omega
                  case rel => exact ⟨(x3_2), (wrap64 (x12_1 + 1)), (by first | rfl | (simp; done) | (simp [*]; done)), H', ⟨by have := HK1.out; have := HK2.out; omega⟩, ⟨by (try simp only [hl3_1]); (try simp only [hl3_2]); (with_reducible repeat (first | apply Kd.R_alloc | apply Kd.R_drewN | apply Kd.R_drew)); exact HO_3.out⟩, ⟨by repeat (first | (with_reducible first | exact HB.out | apply below_alloc | apply pw_below_drewN | apply below_drew1) | exact HB.out)⟩⟩
          · rw [if_neg c9] at H
            have c9b0 : decide (x12_1 < (y310.length : Int)) = false := decide_eq_false c9
            (try (have c9b0_0 := c9b0; simp only [hl3_1] at c9b0_0))
            clear c9
            replace H := Option.bind_eq_some_iff.mp H
            obtain ⟨t313, A210, H⟩ := H
            replace H : (some t313) = some r := H
            have A21 := Aside0.mk A210
            clear A210
            obtain rfl := Option.some.inj H
            go_wp2_with (first | ((with_reducible refine gate_callee (f := 30) rfl ?_); refine goesL_ (some 35) rfl rfl Try.func30 (by kernel_rfl) rfl #[.slice Ao8 x3_1.length co8] rfl (by (try simp only [List.map_toArray, List.map_cons, List.map_nil]); first | done | rfl | (simp only [List.length_drop, List.length_take]; rfl)) ?_; (with_reducible refine (poly_Trim.calls k1 _ _ x3_1 t313 _ ?side1 ?side2 A21.out).mono ?_); (case side1 => repeat (first | exact (Kd.R_reads' HO_3.out).2.2 | (with_reducible refine Kd.C_alloc ?_ _) | (with_reducible refine Kd.C_drewN ?_ _) | (with_reducible refine Kd.C_drew ?_))); (case side2 => exact (Kd.R_reads' HO_3.out).2.1); rintro e w22 ⟨v314, rfl, ho0, hb⟩; refine ⟨_, rfl, ?_⟩; have n0_ := Aside0.mk (Kd.R_elder' (by (with_reducible repeat (first | apply Kd.R_alloc | apply Kd.R_drewN | apply Kd.R_drew)); exact HO_3.out) (Kd.R_base ho0) hb); have n1_ := Aside0.mk (Kd.R_lower (Kd.R_new' ho0 (Kd.R_lt (by (with_reducible repeat (first | apply Kd.R_alloc | apply Kd.R_drewN | apply Kd.R_drew)); exact HO_3.out))) (below_size (by repeat (first | (with_reducible first | exact HB.out | apply below_alloc | apply pw_below_drewN | apply below_drew1) | exact HB.out)))); have n2_ := Aside0.mk (below_step (by repeat (first | (with_reducible first | exact HB.out | apply below_alloc | apply pw_below_drewN | apply below_drew1) | exact HB.out)) hb); clear HO_3; clear HB; have HO_3 := n0_; have HO315 := n1_; have HB := n2_; clear n0_ n1_ n2_; (try clear hb); (try clear hb2); (try clear hk); (try clear hi); (try clear ho0)))
            go_ret
            exact ⟨_, by first | rfl | (simp [errW_none, errW_some] <;> rfl) | (simp [*, errW_none, errW_some] <;> rfl), by (with_reducible repeat (first | apply Kd.R_alloc | apply Kd.R_drewN | apply Kd.R_drew)); exact Kd.R_mono HO315.out (fun _ hk => trivial), by repeat (first | (with_reducible first | exact HB.out | apply below_alloc | apply pw_below_drewN | apply below_drew1) | exact HB.out)⟩
    · rw [if_neg c4] at H
      exact absurd H (by simp)
  · rw [if_neg c3] at H
    exact absurd H (by simp)

end Go.Proofs.Ytkgakohgbbapaaa.PTreeThrough
