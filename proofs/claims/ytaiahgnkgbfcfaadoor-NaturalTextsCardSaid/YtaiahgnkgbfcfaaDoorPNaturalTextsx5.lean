-- Written for this claim by wip/gen/mk.sh, this session's own driver over the kit's print
import Derived.Test.YtaiahgnkgbfcfaaDoorPNaturalTextsx0
import Derived.Test.YtaiahgnkgbfcfaaDoorPNaturalTextsx1
import Derived.Test.YtaiahgnkgbfcfaaDoorPNaturalTextsx2
import Derived.Test.YtaiahgnkgbfcfaaDoorPNaturalTextsx3
import Derived.Test.YtaiahgnkgbfcfaaDoorPNaturalTextsx4
namespace Go.Proofs.YtaiahgnkgbfcfaaDoor.PNaturalTexts
open Go.RowKit Go.Proofs.YtaiahgnkgbfcfaaDoorW.PrintWords Go.Proofs.YtaiahgnkgbfcfaaDoorW.PrintLast Go.Proofs.YtaiahgnkgbfcfaaDoorW.PrintMore
attribute [local go_sem] max2_int min2_int max_two min_two max_three min_three max_four min_four   -- for this text's walks alone
set_option linter.unusedVariables false
set_option linter.unusedSimpArgs false

/-! ### kern4_Kernel_Run: function 60 (by hand) -/
theorem hk4_scale_at (k : Nat) (A0 : Option Addr) (c0 m : Nat) (l0 : List Int) (a1 : Int) (r : List Int) (w : World) (hm : m = l0.length) (hr0 : Kd.C (Kd.int .u64) w A0 l0.length l0) (hc0 : l0.length ≤ c0) (h : twid_Scale.f k l0 a1 = some r) :
    Calls Tryd.prog 66 #[.slice A0 m c0, .int .u64 a1] w fun e w' => ∃ v0_ : Value, e = .returned (v0_) ∧ Kd.R (Kd.int .u64) 23 w' w.heap.size (fun _ => True) v0_ r ∧ Below w.heap.size w w' := by
  subst hm
  exact twid_Scale.calls k A0 c0 l0 a1 r w hr0 hc0 h
set_option maxHeartbeats 800000 in
set_option maxRecDepth 100000 in
theorem kern4_Run.calls (n k : Nat) (hk : k ≤ 20) (u : Value) (l0 pd sc r : List Int) (b b2 : Nat) (v0 v1 x0 x1 x2 : Value) (u0 u1 ud s d : Int) (PD : Option Addr) (cd : Nat) (S : Nat → Prop) (hS : ∀ j, S j ↔ u.ownBlock = some j) (w0 w : World) (hB : Below w0.heap.size w0 w)
    (ho0 : Kd.R (Kd.int .u64) 23 w w0.heap.size S u l0)
    (hX : ∀ W, Kept w W S → W.heap[b]? = some (.cells #[.pointer (some ⟨b2, 0, none⟩), v0, v1, .int .u64 u0, .int .u64 u1, .int .u64 s] 93 (0, 0)))
    (hX2 : ∀ W, Kept w W S → W.heap[b2]? = some (.cells #[x0, x1, x2, .int .i64 (k : Int)] 111 (0, 0)))
    (hT : ∀ W, Kept w W S → Kd.C (Kd.int .u64) W PD pd.length pd)
    (hv : (d = 0 ∧ v0 = .slice PD pd.length cd ∧ ud = u0) ∨ (d = 1 ∧ v1 = .slice PD pd.length cd ∧ ud = u1))
    (hl : l0.length = 2 ^ k) (hsc : twid_Scale.f n l0 1 = some sc) (hscl : sc.length = l0.length) (hpl : l0.length ≤ pd.length) (hpl2 : pd.length ≤ 1048576) (h : hk_k4r pd ud k sc = some r) (rr : List Int) (h2 : (d = 0 ∧ rr = r) ∨ (d = 1 ∧ twid_Scale.f n r s = some rr ∧ rr.length = r.length)) :
    Calls Tryd.prog 60 #[.pointer (some ⟨b, 0, none⟩), u, .int .i64 d] w fun e w' => e = .returned (.int .i64 0) ∧ Kd.R (Kd.int .u64) 23 w' w0.heap.size S u rr ∧ Below w0.heap.size w0 w' ∧ Kept w w' S := by
  have C := Aside0.mk (kern4_Plain.calls n k hk u l0 pd sc r b b2 v0 v1 x0 x1 x2 u0 u1 ud s d PD cd S hS w0 w hB ho0 hX hX2 hT hv hl hsc hscl hpl hpl2 h)
  obtain ⟨g, co, eo, gb, gl, cl, hGG⟩ := Kd.R_form ho0 (by rw [hl]; exact Nat.two_pow_pos k)
  subst eo
  have HX := Aside0.mk hX
  have HP := Aside0.mk (show 0 < l0.length by rw [hl]; exact Nat.two_pow_pos k)
  have HSG := Aside0.mk (show S g from (hS g).2 rfl)
  have GB := Aside0.mk gb
  have H2 := Aside0.mk h2
  clear hk hB hX hX2 hT hl hsc hscl ho0 gb gl hGG hS hv hpl hpl2 h h2
  rcases H2.out with ⟨rfl, rfl⟩ | ⟨rfl, h2, hr2⟩
  · clear H2
    go_enter Tryd.func60, Tryd.ntmps60
    go_wp2_with (go_at_call 65; (with_reducible refine (C.out).mono ?_); rintro e w1 ⟨rfl, hR, hB, hK⟩; have hR := Aside0.mk hR; have hB := Aside0.mk hB; have hK := Aside0.mk hK)
    go_ret
    exact ⟨rfl, hR.out, hB.out, hK.out⟩
  · have HR2 := Aside0.mk hr2
    have HS2 := Aside0.mk h2
    clear H2 hr2 h2
    go_enter Tryd.func60, Tryd.ntmps60
    go_wp2_with (first | (go_at_call 65; (with_reducible refine (C.out).mono ?_); rintro e w1 ⟨rfl, hR, hB, hK⟩; have hc2 := hk_blk_cell (HX.out _ hK) 5 _ rfl; have hR := Aside0.mk hR; have hB := Aside0.mk hB; have hK := Aside0.mk hK) | (go_at_call 66; (with_reducible refine (hk4_scale_at n (some ⟨g, 0, none⟩) co l0.length r s rr _ (Kd.R_reads' hR.out).1 (Kd.R_reads' hR.out).2.2 ?hco HS2.out).mono ?_); (case hco => have h1 := Kd.R_reads' hR.out; omega); rintro e w3 ⟨vs, rfl, hs3, hb3⟩; obtain ⟨As, cs_, ev⟩ := Kd.R_slice hs3; rw [show rr.length = l0.length from HR2.out.trans (Kd.R_reads' hR.out).1.symm] at ev; subst ev; have hR3 := Aside0.mk (Kd.R_below hR.out hb3); have hB3 := Aside0.mk (hB.out.trans (hb3.mono hB.out.size)); have hK3 := Aside0.mk (hK.out.below hb3); have hs3 := Aside0.mk (Kd.R_reads' hs3).2.2; clear hb3) | ((with_reducible refine hk_wpList_copy_whole (o := ⟨some 25, _, _, _, _, _⟩) rfl (.tmp 18) (.tmp 24) 22 23 rfl Tryd.underlying22 ?ci g l0.length co As cs_ ?cd ?cs hR3.out hs3.out ?cl HP.out ?_); (case ci => rfl); (case cd => rfl); (case cs => rfl); (case cl => exact HR2.out.trans (Kd.R_reads' hR3.out).1.symm); intro w4 hR4 hg4; have hB4 := Aside0.mk (hB3.out.trans ⟨hg4.os, hg4.tape, hg4.output, hg4.size, fun q hq => hg4.block q (Nat.lt_of_lt_of_le hq hB3.out.size) (fun e => by have := GB.out; injection e with e; omega)⟩); have hK4 := Aside0.mk (Kept.of_grown hg4 hK3.out (fun q hq => .inl (by injection hq with hq; rw [← hq]; exact HSG.out))); have hR4 := Aside0.mk hR4; clear hg4))
    go_ret
    exact ⟨rfl, hR4.out, hB4.out, hK4.out⟩
/-- What a transform by quarters makes, undivided (plain) or as it is. -/
def hk_run4 (n k : Nat) (t0 t1 : List Int) (u0 u1 s d : Int) (plain : Bool) (l0 rr : List Int) : Prop :=
  ∃ sc r, (d = 0 ∨ d = 1) ∧ twid_Scale.f n l0 1 = some sc ∧ sc.length = l0.length ∧ l0.length = 2 ^ k ∧ (if d = 0 then t0 else t1).length = 2 ^ k ∧ hk_k4r (if d = 0 then t0 else t1) (if d = 0 then u0 else u1) k sc = some r ∧ (((plain = true ∨ d = 0) ∧ rr = r) ∨ (plain = false ∧ d = 1 ∧ twid_Scale.f n r s = some rr ∧ rr.length = r.length))
theorem hk_Run4.use (n k : Nat) (hk : k ≤ 20) (u : Value) (l0 rr t0 t1 : List Int) (u0 u1 s d : Int) (lo hi b : Nat) (plain : Bool) (w0 w : World) (hB : Below w0.heap.size w0 w) (K : hk_K4 k t0 t1 u0 u1 s lo hi b w)
    (ho : Kd.R (Kd.int .u64) 23 w w0.heap.size (fun _ => True) u l0) (hu : ∀ j, u.ownBlock = some j → j < lo ∨ hi ≤ j) (h : hk_run4 n k t0 t1 u0 u1 s d plain l0 rr) :
    Calls Tryd.prog (if plain = true then 65 else 60) #[.pointer (some ⟨b, 0, none⟩), u, .int .i64 d] w fun e w' => e = .returned (.int .i64 0) ∧ Kd.R (Kd.int .u64) 23 w' w0.heap.size (fun _ => True) u rr ∧ Below w0.heap.size w0 w' ∧ Kept w w' (fun j => u.ownBlock = some j) := by
  obtain ⟨sc, r, hd, hsc, hscl, hl, hpl, hr, h2⟩ := h
  obtain ⟨⟨h0, h1⟩, b2, v0, v1, x0, x1, x2, hb2, hX, hX2, hR0, hR1⟩ := K
  have hp20 : 2 ^ k ≤ 1048576 := Nat.pow_le_pow_right (n := 2) (by omega) hk
  have far : ∀ j, lo ≤ j → j < hi → ¬ u.ownBlock = some j := fun j hl hj e => by have := hu j e; omega
  have hoS : Kd.R (Kd.int .u64) 23 w w0.heap.size (fun j => u.ownBlock = some j) u l0 := Kd.R_flat (fun h => h) ho (fun q hq _ => hq)
  obtain ⟨D0, m0, rfl⟩ := Kd.R_slice hR0
  obtain ⟨D1, m1, rfl⟩ := Kd.R_slice hR1
  have key : ∀ (pd : List Int) (ud : Int) (PD : Option Addr) (cd : Nat), pd.length = 2 ^ k → hk_k4r pd ud k sc = some r → Kd.R (Kd.int .u64) 23 w lo (fun j => j < hi) (.slice PD pd.length cd) pd → ((d = 0 ∧ (Value.slice D0 t0.length m0) = .slice PD pd.length cd ∧ ud = u0) ∨ (d = 1 ∧ (Value.slice D1 t1.length m1) = .slice PD pd.length cd ∧ ud = u1)) →
      Calls Tryd.prog (if plain = true then 65 else 60) #[.pointer (some ⟨b, 0, none⟩), u, .int .i64 d] w fun e w' => e = .returned (.int .i64 0) ∧ Kd.R (Kd.int .u64) 23 w' w0.heap.size (fun _ => True) u rr ∧ Below w0.heap.size w0 w' ∧ Kept w w' (fun j => u.ownBlock = some j) := by
    intro pd ud PD cd hpd hr hR hv
    have hT : ∀ W, Kept w W (fun j => u.ownBlock = some j) → Kd.C (Kd.int .u64) W PD pd.length pd := Kd.C_kept_own (S := fun j => u.ownBlock = some j) (Kd.R_bound hR) (fun q hq => far q hq.2.1 hq.1)
    cases plain with
    | true =>
      rw [if_pos rfl]
      rcases h2 with ⟨_, rfl⟩ | ⟨hf, _⟩
      · refine (kern4_Plain.calls n k hk u l0 pd sc rr b b2 _ _ x0 x1 x2 u0 u1 ud s d PD cd (fun j => u.ownBlock = some j) (fun _ => Iff.rfl) w0 w hB hoS (fun W hW => blk_kept hX hW (far _ h0 h1)) (fun W hW => blk_kept hX2 hW (far _ hb2.1 hb2.2)) hT hv hl hsc hscl (by omega) (by omega) hr).mono ?_
        rintro e w' ⟨he, hR', hB', hK'⟩
        exact ⟨he, Kd.R_mono hR' (fun _ _ => trivial), hB', hK'⟩
      · cases hf
    | false =>
      rw [if_neg (by decide)]
      refine (kern4_Run.calls n k hk u l0 pd sc r b b2 _ _ x0 x1 x2 u0 u1 ud s d PD cd (fun j => u.ownBlock = some j) (fun _ => Iff.rfl) w0 w hB hoS (fun W hW => blk_kept hX hW (far _ h0 h1)) (fun W hW => blk_kept hX2 hW (far _ hb2.1 hb2.2)) hT hv hl hsc hscl (by omega) (by omega) hr rr ?_).mono ?_
      · rcases h2 with ⟨hq | hq, e⟩ | ⟨_, hq, e⟩
        · cases hq
        · exact .inl ⟨hq, e⟩
        · exact .inr ⟨hq, e⟩
      · rintro e w' ⟨he, hR', hB', hK'⟩
        exact ⟨he, Kd.R_mono hR' (fun _ _ => trivial), hB', hK'⟩
  rcases hd with rfl | rfl
  · exact key t0 u0 D0 m0 hpl hr hR0 (.inl ⟨rfl, rfl, rfl⟩)
  · exact key t1 u1 D1 m1 hpl hr hR1 (.inr ⟨rfl, rfl, rfl⟩)
set_option maxHeartbeats 800000 in
set_option maxRecDepth 100000 in
theorem kern4_Plain.err (k : Nat) (hk : k ≤ 20) (t0 t1 : List Int) (u0 u1 s : Int) (lo hi b : Nat) (A : Option Addr) (m c : Nat) (d er : Int) (w : World) (K : hk_K4 k t0 t1 u0 u1 s lo hi b w) (h : hk_err k m d er) :
    Calls Tryd.prog 65 #[.pointer (some ⟨b, 0, none⟩), .slice A m c, .int .i64 d] w fun e w' => e = .returned (.int .i64 er) ∧ Drawn0 w w' := by
  obtain ⟨_, b2, v0, v1, x0, x1, x2, _, hX, hX2, _, _⟩ := K
  have HX2 := Aside0.mk hX2
  have hc0 := hk_blk_cell hX 0 _ rfl
  have hs := hk_shl_k hk
  clear hX hX2 hk
  rcases h with ⟨hm, rfl⟩ | ⟨hm, hd, rfl⟩
  · have hcond : ((m : Int) != wrap64 (2 ^ min (IntKind.u64.wrap (k : Int)).toNat 64)) = true := by rw [hs]; exact bne_iff_ne.2 (by omega)
    clear hs hm
    go_enter Tryd.func65, Tryd.ntmps65
    go_wp2_with (go_at_call 74; (with_reducible refine (hk_kern2_K.calls b2 x0 x1 x2 k _ HX2.out).mono ?_); rintro e w1 ⟨rfl, hb1⟩; have hb1 := Aside0.mk hb1)
    go_ret
    exact ⟨rfl, by repeat (first | exact hb1.out | apply Drawn0.step)⟩
  · have hcond : ((m : Int) != wrap64 (2 ^ min (IntKind.u64.wrap (k : Int)).toNat 64)) = false := by rw [hs, hm]; exact bne_self_eq_false _
    clear hs hm
    by_cases c : d < 0
    · have d1 : decide (d < 0) = true := decide_eq_true c
      clear c hd
      go_enter Tryd.func65, Tryd.ntmps65
      go_wp2_with (go_at_call 74; (with_reducible refine (hk_kern2_K.calls b2 x0 x1 x2 k _ HX2.out).mono ?_); rintro e w1 ⟨rfl, hb1⟩; have hb1 := Aside0.mk hb1)
      go_ret
      exact ⟨rfl, by repeat (first | exact hb1.out | apply Drawn0.step)⟩
    · have d1 : decide (d < 0) = false := decide_eq_false c
      have d2 : decide (1 < d) = true := decide_eq_true (by omega)
      clear c hd
      go_enter Tryd.func65, Tryd.ntmps65
      go_wp2_with (go_at_call 74; (with_reducible refine (hk_kern2_K.calls b2 x0 x1 x2 k _ HX2.out).mono ?_); rintro e w1 ⟨rfl, hb1⟩; have hb1 := Aside0.mk hb1)
      go_ret
      exact ⟨rfl, by repeat (first | exact hb1.out | apply Drawn0.step)⟩
set_option maxHeartbeats 800000 in
set_option maxRecDepth 100000 in
theorem kern4_Run.err (k : Nat) (hk : k ≤ 20) (t0 t1 : List Int) (u0 u1 s : Int) (lo hi b : Nat) (A : Option Addr) (m c : Nat) (d er : Int) (w : World) (K : hk_K4 k t0 t1 u0 u1 s lo hi b w) (h : hk_err k m d er) :
    Calls Tryd.prog 60 #[.pointer (some ⟨b, 0, none⟩), .slice A m c, .int .i64 d] w fun e w' => e = .returned (.int .i64 er) ∧ Drawn0 w w' := by
  have C := Aside0.mk (kern4_Plain.err k hk t0 t1 u0 u1 s lo hi b A m c d er w K h)
  have he : er = 4 ∨ er = 18 := by rcases h with ⟨_, h⟩ | ⟨_, _, h⟩ <;> omega
  clear K h hk
  rcases he with rfl | rfl
  · go_enter Tryd.func60, Tryd.ntmps60
    go_wp2_with (go_at_call 65; (with_reducible refine (C.out).mono ?_); rintro e w1 ⟨rfl, hb1⟩; have hb1 := Aside0.mk hb1)
    go_ret
    exact ⟨rfl, by repeat (first | exact hb1.out | apply Drawn0.step)⟩
  · go_enter Tryd.func60, Tryd.ntmps60
    go_wp2_with (go_at_call 65; (with_reducible refine (C.out).mono ?_); rintro e w1 ⟨rfl, hb1⟩; have hb1 := Aside0.mk hb1)
    go_ret
    exact ⟨rfl, by repeat (first | exact hb1.out | apply Drawn0.step)⟩
theorem hk_Run4.run (n k : Nat) (hk : k ≤ 20) (u : Value) (l0 rr t0 t1 : List Int) (u0 u1 s d : Int) (lo b : Nat) (w2 w : World) (H2 : Below w2.heap.size w2 w) (K : hk_K4 k t0 t1 u0 u1 s lo w2.heap.size b w2)
    (ho : Kd.R (Kd.int .u64) 23 w w2.heap.size (fun _ => True) u l0) (h : hk_run4 n k t0 t1 u0 u1 s d false l0 rr) :
    Calls Tryd.prog 60 #[.pointer (some ⟨b, 0, none⟩), u, .int .i64 d] w fun e w' => e = .returned (.int .i64 0) ∧ Kd.R (Kd.int .u64) 23 w' w2.heap.size (fun _ => True) u rr ∧ Below w2.heap.size w2 w' ∧ Kept w w' (fun j => u.ownBlock = some j) := by
  have h := hk_Run4.use n k hk u l0 rr t0 t1 u0 u1 s d lo w2.heap.size b false w2 w H2 (K.below H2) ho (fun j hj => .inr ((Kd.R_bound ho).1 j hj).2.1) h
  rw [if_neg (by decide)] at h
  exact h
theorem hk_Run4.plain (n k : Nat) (hk : k ≤ 20) (u : Value) (l0 rr t0 t1 : List Int) (u0 u1 s d : Int) (lo b : Nat) (w2 w : World) (H2 : Below w2.heap.size w2 w) (K : hk_K4 k t0 t1 u0 u1 s lo w2.heap.size b w2)
    (ho : Kd.R (Kd.int .u64) 23 w w2.heap.size (fun _ => True) u l0) (h : hk_run4 n k t0 t1 u0 u1 s d true l0 rr) :
    Calls Tryd.prog 65 #[.pointer (some ⟨b, 0, none⟩), u, .int .i64 d] w fun e w' => e = .returned (.int .i64 0) ∧ Kd.R (Kd.int .u64) 23 w' w2.heap.size (fun _ => True) u rr ∧ Below w2.heap.size w2 w' ∧ Kept w w' (fun j => u.ownBlock = some j) := by
  have h := hk_Run4.use n k hk u l0 rr t0 t1 u0 u1 s d lo w2.heap.size b true w2 w H2 (K.below H2) ho (fun j hj => .inr ((Kd.R_bound ho).1 j hj).2.1) h
  rw [if_pos rfl] at h
  exact h

/-! ### gold_Pow: function 89 -/
def gold_Pow.l0 : Nat → Int → Int → Int → Option (Int)
  | 0, _, _, _ => none
  | k + 1, x1, x5, x6 => if x1 > 0 then (if (Go.bits .and .u64 x1 1) = 1 then ((gold_Mul.f x5 x6).bind fun t169 => ((gold_Mul.f x6 x6).bind fun t170 => (gold_Pow.l0 k (x1 / 2) t169 t170))) else ((gold_Mul.f x6 x6).bind fun t171 => (gold_Pow.l0 k (x1 / 2) x5 t171))) else (some x5)
def gold_Pow.f (k : Nat) (a0 : Int) (a1 : Int) : Option (Int) := (gold_Of.f a0).bind fun t168 => (gold_Pow.l0 k a1 1 t168)
theorem gold_Pow.mono_l : ∀ k, (∀ y0 y1 y2, LeO (gold_Pow.l0 k y0 y1 y2) (gold_Pow.l0 (k + 1) y0 y1 y2))
  | 0 => fun _ _ _ r h => by simp [gold_Pow.l0] at h
  | k + 1 => by
    have ih0 := gold_Pow.mono_l k
    · intro y0 y1 y2
      unfold gold_Pow.l0
      repeat' first
      | (with_reducible exact ih0 _ _ _)
      | (with_reducible exact LeO.refl _)
      | (with_reducible exact LeO.none _)
      | (with_reducible refine LeO.ite ?_ ?_)
      | (with_reducible refine LeO.bind ?_ (fun _ => ?_))
      | exact ih0 _ _ _
      | exact LeO.none _
      | refine LeO.ite ?_ ?_
      | refine LeO.bind ?_ (fun _ => ?_)
theorem gold_Pow.mono : ∀ a0 a1 k, LeO (gold_Pow.f k a0 a1) (gold_Pow.f (k + 1) a0 a1) := by
  intro a0 a1 k
  have ih0 := gold_Pow.mono_l k
  unfold gold_Pow.f
  repeat' first
      | (with_reducible exact ih0 _ _ _)
      | (with_reducible exact LeO.refl _)
      | (with_reducible exact LeO.none _)
      | (with_reducible refine LeO.ite ?_ ?_)
      | (with_reducible refine LeO.bind ?_ (fun _ => ?_))
      | exact ih0 _ _ _
      | exact LeO.none _
      | refine LeO.ite ?_ ?_
      | refine LeO.bind ?_ (fun _ => ?_)
set_option maxHeartbeats 8000000 in
set_option maxRecDepth 100000 in
theorem gold_Pow.calls (k : Nat) (a0 : Int) (a1 : Int) (r : Int) (w : World) (h : gold_Pow.f k a0 a1 = some r) :
    Calls Tryd.prog 89 #[.int .u64 a0, .int .u64 a1] w fun e w' => e = .returned (.int .u64 r) ∧ Below w.heap.size w w' := by
  have HB := Aside0.mk (Below.refl w.heap.size w)
  have H : ((gold_Of.f a0).bind fun t168 => (gold_Pow.l0 k a1 1 t168)) = some r := h
  clear h
  replace H := Option.bind_eq_some_iff.mp H
  obtain ⟨t168, A30, H⟩ := H
  replace H : (gold_Pow.l0 k a1 1 t168) = some r := H
  have A3 := Aside0.mk A30
  clear A30
  have H' := Aside0.mk H
  clear H
  go_enter Tryd.func89, Tryd.ntmps89
  go_wp2_with (first | ((with_reducible refine gate_callee (f := 57) rfl ?_); refine goesL_ (some 8) rfl rfl Tryd.func57 (by kernel_rfl) rfl #[.int .u64 a0] rfl (by (try simp only [List.map_toArray, List.map_cons, List.map_nil]); first | done | rfl | (simp only [List.length_drop, List.length_take]; rfl)) ?_; (with_reducible refine (gold_Of.calls a0 t168 _ A3.out).mono ?_); rintro e w' ⟨rfl, ⟨nd, rfl⟩⟩; refine ⟨_, rfl, ?_⟩))
  go_loopg [1, 5, 6] k (fun kq v1 v5 v6 w' => ∃ (x1_1 : Int) (x5_1 : Int) (x6_1 : Int), v1 = .int .u64 x1_1 ∧ v5 = .int .u64 x5_1 ∧ v6 = .int .u64 x6_1 ∧ Aside0 (gold_Pow.l0 kq x1_1 x5_1 x6_1 = some r) ∧ Aside0 (kq ≤ k) ∧ Aside0 (Below w.heap.size w w'))
  case atStart => exact ⟨(a1), (1), (t168), (by first | rfl | (simp; done) | (simp [*]; done)), (by first | rfl | (simp; done) | (simp [*]; done)), (by first | rfl | (simp; done) | (simp [*]; done)), H', ⟨Nat.le_refl _⟩, ⟨by repeat (first | (with_reducible first | exact HB.out | apply below_alloc | apply pw_below_drewN | apply below_drew1) | exact HB.out)⟩⟩
  case round =>
    clear H'
    try clear p2
    obtain ⟨x1_1, x5_1, x6_1, rfl, rfl, rfl, HA, HK1, HB⟩ := hrel
    cases gk with
    | zero => exact absurd HA.out (by simp [gold_Pow.l0])
    | succ k1 =>
      have H := HA.out
      clear HA
      simp only [gold_Pow.l0] at H
      by_cases c4 : x1_1 > 0
      · rw [if_pos c4] at H
        have c4b0 : decide (0 < x1_1) = true := decide_eq_true c4
        clear c4
        by_cases c5 : (Go.bits .and .u64 x1_1 1) = 1
        · rw [if_pos c5] at H
          have c5b0 : ((Go.bits .and .u64 x1_1 1) == 1) = true := beq_iff_eq.mpr c5
          have c5b1 : ((Go.bits .and .u64 x1_1 1) != 1) = false := bne_eq_false_iff_eq.mpr c5
          clear c5
          replace H := Option.bind_eq_some_iff.mp H
          obtain ⟨t169, A60, H⟩ := H
          replace H : ((gold_Mul.f x6_1 x6_1).bind fun t170 => (gold_Pow.l0 k1 (x1_1 / 2) t169 t170)) = some r := H
          have A6 := Aside0.mk A60
          clear A60
          replace H := Option.bind_eq_some_iff.mp H
          obtain ⟨t170, A70, H⟩ := H
          replace H : (gold_Pow.l0 k1 (x1_1 / 2) t169 t170) = some r := H
          have A7 := Aside0.mk A70
          clear A70
          have H' := Aside0.mk H
          clear H
          go_wp2_with (first | ((with_reducible refine gate_callee (f := 64) rfl ?_); refine goesL_ (some 18) rfl rfl Tryd.func64 (by kernel_rfl) rfl #[.int .u64 x5_1, .int .u64 x6_1] rfl (by (try simp only [List.map_toArray, List.map_cons, List.map_nil]); first | done | rfl | (simp only [List.length_drop, List.length_take]; rfl)) ?_; (with_reducible refine (gold_Mul.calls x5_1 x6_1 t169 _ A6.out).mono ?_); rintro e w8 ⟨rfl, hb⟩; refine ⟨_, rfl, ?_⟩; have n0_ := Aside0.mk (below_step (by repeat (first | (with_reducible first | exact HB.out | apply below_alloc | apply pw_below_drewN | apply below_drew1) | exact HB.out)) hb); clear HB; have HB := n0_; clear n0_; (try clear hb); (try clear hb2); (try clear hk); (try clear hi)) | ((with_reducible refine gate_callee (f := 64) rfl ?_); refine goesL_ (some 21) rfl rfl Tryd.func64 (by kernel_rfl) rfl #[.int .u64 x6_1, .int .u64 x6_1] rfl (by (try simp only [List.map_toArray, List.map_cons, List.map_nil]); first | done | rfl | (simp only [List.length_drop, List.length_take]; rfl)) ?_; (with_reducible refine (gold_Mul.calls x6_1 x6_1 t170 _ A7.out).mono ?_); rintro e w9 ⟨rfl, hb⟩; refine ⟨_, rfl, ?_⟩; have n0_ := Aside0.mk (below_step (by repeat (first | (with_reducible first | exact HB.out | apply below_alloc | apply pw_below_drewN | apply below_drew1) | exact HB.out)) hb); clear HB; have HB := n0_; clear n0_; (try clear hb); (try clear hb2); (try clear hk); (try clear hi)))
          (first | go_roundg k1 | (simp only [add_plain] at *; go_roundg k1))
          case measure => have := HK1.out; omega
          case rel => exact ⟨(x1_1 / 2), (t169), (t170), (by first | rfl | (simp; done) | (simp [*]; done)), (by first | rfl | (simp; done) | (simp [*]; done)), (by first | rfl | (simp; done) | (simp [*]; done)), H', ⟨by have := HK1.out; omega⟩, ⟨by repeat (first | (with_reducible first | exact HB.out | apply below_alloc | apply pw_below_drewN | apply below_drew1) | exact HB.out)⟩⟩
        · rw [if_neg c5] at H
          have c5b0 : ((Go.bits .and .u64 x1_1 1) == 1) = false := beq_eq_false_iff_ne.mpr c5
          have c5b1 : ((Go.bits .and .u64 x1_1 1) != 1) = true := bne_iff_ne.mpr c5
          replace H := Option.bind_eq_some_iff.mp H
          obtain ⟨t171, A100, H⟩ := H
          replace H : (gold_Pow.l0 k1 (x1_1 / 2) x5_1 t171) = some r := H
          have A10 := Aside0.mk A100
          clear A100
          have H' := Aside0.mk H
          clear H
          go_wp2_with (first | ((with_reducible refine gate_callee (f := 64) rfl ?_); refine goesL_ (some 21) rfl rfl Tryd.func64 (by kernel_rfl) rfl #[.int .u64 x6_1, .int .u64 x6_1] rfl (by (try simp only [List.map_toArray, List.map_cons, List.map_nil]); first | done | rfl | (simp only [List.length_drop, List.length_take]; rfl)) ?_; (with_reducible refine (gold_Mul.calls x6_1 x6_1 t171 _ A10.out).mono ?_); rintro e w11 ⟨rfl, hb⟩; refine ⟨_, rfl, ?_⟩; have n0_ := Aside0.mk (below_step (by repeat (first | (with_reducible first | exact HB.out | apply below_alloc | apply pw_below_drewN | apply below_drew1) | exact HB.out)) hb); clear HB; have HB := n0_; clear n0_; (try clear hb); (try clear hb2); (try clear hk); (try clear hi)))
          (first | go_roundg k1 | (simp only [add_plain] at *; go_roundg k1))
          case measure => have := HK1.out; omega
          case rel => exact ⟨(x1_1 / 2), (x5_1), (t171), (by first | rfl | (simp; done) | (simp [*]; done)), (by first | rfl | (simp; done) | (simp [*]; done)), (by first | rfl | (simp; done) | (simp [*]; done)), H', ⟨by have := HK1.out; omega⟩, ⟨by repeat (first | (with_reducible first | exact HB.out | apply below_alloc | apply pw_below_drewN | apply below_drew1) | exact HB.out)⟩⟩
      · rw [if_neg c4] at H
        have c4b0 : decide (0 < x1_1) = false := decide_eq_false c4
        clear c4
        obtain rfl := Option.some.inj H
        go_wp2
        go_ret
        exact ⟨by first | rfl | (simp [errW_none, errW_some] <;> rfl) | (simp [*, errW_none, errW_some] <;> rfl), by repeat (first | (with_reducible first | exact HB.out | apply below_alloc | apply pw_below_drewN | apply below_drew1) | exact HB.out)⟩

/-! ### gold_Inv: function 80 -/
def gold_Inv.f (k : Nat) (a0 : Int) : Option (Int × Int) := (gold_Of.f a0).bind fun t172 => (if t172 = 0 then (some (0, 13)) else ((gold_Pow.f k a0 18446744069414584319).bind fun t173 => (some (t173, 0))))
theorem gold_Inv.mono : ∀ a0 k, LeO (gold_Inv.f k a0) (gold_Inv.f (k + 1) a0) := by
  intro a0 k
  unfold gold_Inv.f
  repeat' first
      | (with_reducible exact gold_Pow.mono _ _ _)
      | (with_reducible exact LeO.refl _)
      | (with_reducible exact LeO.none _)
      | (with_reducible refine LeO.ite ?_ ?_)
      | (with_reducible refine LeO.bind ?_ (fun _ => ?_))
      | exact gold_Pow.mono _ _ _
      | exact LeO.none _
      | refine LeO.ite ?_ ?_
      | refine LeO.bind ?_ (fun _ => ?_)
set_option maxHeartbeats 8000000 in
set_option maxRecDepth 100000 in
theorem gold_Inv.calls (k : Nat) (a0 : Int) (r1 : Int) (r2 : Int) (w : World) (h : gold_Inv.f k a0 = some (r1, r2)) :
    Calls Tryd.prog 80 #[.int .u64 a0] w fun e w' => e = .returned (.tuple #[.int .u64 r1, .int .i64 r2]) ∧ Below w.heap.size w w' := by
  have HB := Aside0.mk (Below.refl w.heap.size w)
  have H : ((gold_Of.f a0).bind fun t172 => (if t172 = 0 then (some (0, 13)) else ((gold_Pow.f k a0 18446744069414584319).bind fun t173 => (some (t173, 0))))) = some (r1, r2) := h
  clear h
  replace H := Option.bind_eq_some_iff.mp H
  obtain ⟨t172, A20, H⟩ := H
  replace H : (if t172 = 0 then (some (0, 13)) else ((gold_Pow.f k a0 18446744069414584319).bind fun t173 => (some (t173, 0)))) = some (r1, r2) := H
  have A2 := Aside0.mk A20
  clear A20
  by_cases c3 : t172 = 0
  · rw [if_pos c3] at H
    have c3b0 : (t172 == 0) = true := beq_iff_eq.mpr c3
    have c3b1 : (t172 != 0) = false := bne_eq_false_iff_eq.mpr c3
    clear c3
    simp only [Option.some.injEq, Prod.mk.injEq] at H
    obtain ⟨rfl, rfl⟩ := H
    go_enter Tryd.func80, Tryd.ntmps80
    go_wp2_with (first | ((with_reducible refine gate_callee (f := 57) rfl ?_); refine goesL_ (some 5) rfl rfl Tryd.func57 (by kernel_rfl) rfl #[.int .u64 a0] rfl (by (try simp only [List.map_toArray, List.map_cons, List.map_nil]); first | done | rfl | (simp only [List.length_drop, List.length_take]; rfl)) ?_; (with_reducible refine (gold_Of.calls a0 t172 _ A2.out).mono ?_); rintro e w' ⟨rfl, ⟨nd, rfl⟩⟩; refine ⟨_, rfl, ?_⟩))
    go_ret2
    exact ⟨by first | rfl | (simp [errW_none, errW_some] <;> rfl) | (simp [*, errW_none, errW_some] <;> rfl), by repeat (first | (with_reducible first | exact HB.out | apply below_alloc | apply pw_below_drewN | apply below_drew1) | exact HB.out)⟩
  · rw [if_neg c3] at H
    have c3b0 : (t172 == 0) = false := beq_eq_false_iff_ne.mpr c3
    have c3b1 : (t172 != 0) = true := bne_iff_ne.mpr c3
    replace H := Option.bind_eq_some_iff.mp H
    obtain ⟨t173, A40, H⟩ := H
    replace H : (some (t173, 0)) = some (r1, r2) := H
    have A4 := Aside0.mk A40
    clear A40
    simp only [Option.some.injEq, Prod.mk.injEq] at H
    obtain ⟨rfl, rfl⟩ := H
    go_enter Tryd.func80, Tryd.ntmps80
    go_wp2_with (first | ((with_reducible refine gate_callee (f := 57) rfl ?_); refine goesL_ (some 5) rfl rfl Tryd.func57 (by kernel_rfl) rfl #[.int .u64 a0] rfl (by (try simp only [List.map_toArray, List.map_cons, List.map_nil]); first | done | rfl | (simp only [List.length_drop, List.length_take]; rfl)) ?_; (with_reducible refine (gold_Of.calls a0 t172 _ A2.out).mono ?_); rintro e w' ⟨rfl, ⟨nd, rfl⟩⟩; refine ⟨_, rfl, ?_⟩) | ((with_reducible refine gate_callee (f := 89) rfl ?_); refine goesL_ (some 8) rfl rfl Tryd.func89 (by kernel_rfl) rfl #[.int .u64 a0, .int .u64 18446744069414584319] rfl (by (try simp only [List.map_toArray, List.map_cons, List.map_nil]); first | done | rfl | (simp only [List.length_drop, List.length_take]; rfl)) ?_; (with_reducible refine (gold_Pow.calls k a0 18446744069414584319 t173 _ A4.out).mono ?_); rintro e w5 ⟨rfl, hb⟩; refine ⟨_, rfl, ?_⟩; have n0_ := Aside0.mk (below_step (by repeat (first | (with_reducible first | exact HB.out | apply below_alloc | apply pw_below_drewN | apply below_drew1) | exact HB.out)) hb); clear HB; have HB := n0_; clear n0_; (try clear hb); (try clear hb2); (try clear hk); (try clear hi)))
    go_ret2
    exact ⟨by first | rfl | (simp [errW_none, errW_some] <;> rfl) | (simp [*, errW_none, errW_some] <;> rfl), by repeat (first | (with_reducible first | exact HB.out | apply below_alloc | apply pw_below_drewN | apply below_drew1) | exact HB.out)⟩

/-! ### twid_Share: function 71 -/
def twid_Share.f (k : Nat) (a0 : Int) : Option (Int × Int) := if a0 < 0 then (some (0, 1)) else (if a0 > 32 then (some (0, 1)) else (if 0 ≤ (IntKind.u64.wrap (a0)) then ((gold_Inv.f k (shl .u64 1 (IntKind.u64.wrap (a0)))).bind fun bt174 => (some (bt174.1, bt174.2))) else (none)))
theorem twid_Share.mono : ∀ a0 k, LeO (twid_Share.f k a0) (twid_Share.f (k + 1) a0) := by
  intro a0 k
  unfold twid_Share.f
  repeat' first
      | (with_reducible exact gold_Inv.mono _ _)
      | (with_reducible exact LeO.refl _)
      | (with_reducible exact LeO.none _)
      | (with_reducible refine LeO.ite ?_ ?_)
      | (with_reducible refine LeO.bind ?_ (fun _ => ?_))
      | exact gold_Inv.mono _ _
      | exact LeO.none _
      | refine LeO.ite ?_ ?_
      | refine LeO.bind ?_ (fun _ => ?_)
set_option maxHeartbeats 8000000 in
set_option maxRecDepth 100000 in
theorem twid_Share.calls (k : Nat) (a0 : Int) (r1 : Int) (r2 : Int) (w : World) (h : twid_Share.f k a0 = some (r1, r2)) :
    Calls Tryd.prog 71 #[.int .i64 a0] w fun e w' => e = .returned (.tuple #[.int .u64 r1, .int .i64 r2]) ∧ Below w.heap.size w w' := by
  have HB := Aside0.mk (Below.refl w.heap.size w)
  have H : (if a0 < 0 then (some (0, 1)) else (if a0 > 32 then (some (0, 1)) else (if 0 ≤ (IntKind.u64.wrap (a0)) then ((gold_Inv.f k (shl .u64 1 (IntKind.u64.wrap (a0)))).bind fun bt174 => (some (bt174.1, bt174.2))) else (none)))) = some (r1, r2) := h
  clear h
  by_cases c2 : a0 < 0
  · rw [if_pos c2] at H
    have c2b0 : decide (a0 < 0) = true := decide_eq_true c2
    clear c2
    simp only [Option.some.injEq, Prod.mk.injEq] at H
    obtain ⟨rfl, rfl⟩ := H
    go_enter Tryd.func71, Tryd.ntmps71
    go_wp2
    go_ret2
    exact ⟨by first | rfl | (simp [errW_none, errW_some] <;> rfl) | (simp [*, errW_none, errW_some] <;> rfl), by repeat (first | (with_reducible first | exact HB.out | apply below_alloc | apply pw_below_drewN | apply below_drew1) | exact HB.out)⟩
  · rw [if_neg c2] at H
    have c2b0 : decide (a0 < 0) = false := decide_eq_false c2
    clear c2
    by_cases c3 : a0 > 32
    · rw [if_pos c3] at H
      have c3b0 : decide (32 < a0) = true := decide_eq_true c3
      clear c3
      simp only [Option.some.injEq, Prod.mk.injEq] at H
      obtain ⟨rfl, rfl⟩ := H
      go_enter Tryd.func71, Tryd.ntmps71
      go_wp2
      go_ret2
      exact ⟨by first | rfl | (simp [errW_none, errW_some] <;> rfl) | (simp [*, errW_none, errW_some] <;> rfl), by repeat (first | (with_reducible first | exact HB.out | apply below_alloc | apply pw_below_drewN | apply below_drew1) | exact HB.out)⟩
    · rw [if_neg c3] at H
      have c3b0 : decide (32 < a0) = false := decide_eq_false c3
      clear c3
      obtain ⟨ji4, hji4⟩ : ∃ j_ : Int, (IntKind.u64.wrap (a0)) = j_ := ⟨_, rfl⟩
      replace H : (if 0 ≤ (ji4) then ((gold_Inv.f k (shl .u64 1 (ji4))).bind fun bt174 => (some (bt174.1, bt174.2))) else (none)) = some (r1, r2) := by first | (rw [hji4] at H; exact H) | (simp only [hji4] at H ⊢; exact H)
      by_cases c5 : 0 ≤ (ji4)
      · rw [if_pos c5] at H
        have c5b0 := eq_true c5
        have c5b1 : decide (0 ≤ (ji4)) = true := decide_eq_true c5
        clear c5
        obtain ⟨ji6, hji6⟩ : ∃ j_ : Int, (shl .u64 1 (ji4)) = j_ := ⟨_, rfl⟩
        replace H : ((gold_Inv.f k (ji6)).bind fun bt174 => (some (bt174.1, bt174.2))) = some (r1, r2) := by first | (rw [hji6] at H; exact H) | (simp only [hji6] at H ⊢; exact H)
        have hji6_ : (IntKind.u64.wrap (1 * 2 ^ min (ji4).toNat 64)) = ji6 := hji6
        have hji6z : (ji4) ≤ 64 → (IntKind.u64.wrap (1 * 2 ^ (ji4).toNat)) = ji6 := shl_small hji6
        have hji6u : (IntKind.u64.wrap (2 ^ min (ji4).toNat 64)) = ji6 := by have h_ := hji6_; rw [Int.one_mul] at h_; exact h_
        have hji6v : (ji4) ≤ 64 → (IntKind.u64.wrap (2 ^ (ji4).toNat)) = ji6 := fun hle_ => by have h_ := hji6z hle_; rw [Int.one_mul] at h_; exact h_
        replace H := Option.bind_eq_some_iff.mp H
        obtain ⟨⟨t174, t175⟩, A70, H⟩ := H
        replace H : (some (t174, t175)) = some (r1, r2) := H
        have A7 := Aside0.mk A70
        clear A70
        simp only [Option.some.injEq, Prod.mk.injEq] at H
        obtain ⟨rfl, rfl⟩ := H
        go_enter Tryd.func71, Tryd.ntmps71
        go_wp2_with (first | ((with_reducible refine gate_callee (f := 80) rfl ?_); refine goesL_ (some 13) rfl rfl Tryd.func80 (by kernel_rfl) rfl #[.int .u64 ji6] rfl (by (try simp only [List.map_toArray, List.map_cons, List.map_nil]); first | done | (simp only [hji6]; rfl) | rfl | (simp only [List.length_drop, List.length_take]; rfl)) ?_; (with_reducible refine (gold_Inv.calls k ji6 t174 t175 _ A7.out).mono ?_); rintro e w8 ⟨rfl, hb⟩; refine ⟨_, rfl, ?_⟩; have n0_ := Aside0.mk (below_step (by repeat (first | (with_reducible first | exact HB.out | apply below_alloc | apply pw_below_drewN | apply below_drew1) | exact HB.out)) hb); clear HB; have HB := n0_; clear n0_; (try clear hb); (try clear hb2); (try clear hk); (try clear hi)))
        go_ret2
        exact ⟨by first | rfl | (simp [errW_none, errW_some] <;> rfl) | (simp only [← hji4, ← hji6]; first | rfl | (simp [errW_none, errW_some] <;> rfl)) | (simp [*, errW_none, errW_some] <;> rfl), by repeat (first | (with_reducible first | exact HB.out | apply below_alloc | apply pw_below_drewN | apply below_drew1) | exact HB.out)⟩
      · rw [if_neg c5] at H
        exact absurd H (by simp)

/-! ### root_good: function 91 -/
def root_good.f (a0 : Int) : Option (Bool) := if a0 ≥ 0 then (some (decide (a0 ≤ 32))) else (some false)
set_option maxHeartbeats 8000000 in
set_option maxRecDepth 100000 in
theorem root_good.calls (a0 : Int) (r : Bool) (w : World) (h : root_good.f a0 = some r) :
    Calls Tryd.prog 91 #[.int .i64 a0] w fun e w' => e = .returned (.bool r) ∧ Drawn0 w w' := by
  have H : (if a0 ≥ 0 then (some (decide (a0 ≤ 32))) else (some false)) = some r := h
  clear h
  by_cases c2 : a0 ≥ 0
  · rw [if_pos c2] at H
    have c2b0 : decide (0 ≤ a0) = true := decide_eq_true c2
    clear c2
    obtain rfl := Option.some.inj H
    go_enter Tryd.func91, Tryd.ntmps91
    go_wp2
    go_ret
    exact ⟨by first | rfl | (simp; done) | (simp [*]; done), by repeat (first | exact Drawn0.refl _ | apply Drawn0.step)⟩
  · rw [if_neg c2] at H
    have c2b0 : decide (0 ≤ a0) = false := decide_eq_false c2
    clear c2
    obtain rfl := Option.some.inj H
    go_enter Tryd.func91, Tryd.ntmps91
    go_wp2
    go_ret
    exact ⟨by first | rfl | (simp; done) | (simp [*]; done), by repeat (first | exact Drawn0.refl _ | apply Drawn0.step)⟩

/-! ### root_root: function 92 -/
def root_root.f (k : Nat) (a0 : Int) : Option (Int) := if 0 ≤ (IntKind.u64.wrap (a0)) then ((gold_Pow.f k 7 (shr .u64 18446744069414584320 (IntKind.u64.wrap (a0)))).bind fun t176 => (some t176)) else (none)
theorem root_root.mono : ∀ a0 k, LeO (root_root.f k a0) (root_root.f (k + 1) a0) := by
  intro a0 k
  unfold root_root.f
  repeat' first
      | (with_reducible exact gold_Pow.mono _ _ _)
      | (with_reducible exact LeO.refl _)
      | (with_reducible exact LeO.none _)
      | (with_reducible refine LeO.ite ?_ ?_)
      | (with_reducible refine LeO.bind ?_ (fun _ => ?_))
      | exact gold_Pow.mono _ _ _
      | exact LeO.none _
      | refine LeO.ite ?_ ?_
      | refine LeO.bind ?_ (fun _ => ?_)
set_option maxHeartbeats 8000000 in
set_option maxRecDepth 100000 in
theorem root_root.calls (k : Nat) (a0 : Int) (r : Int) (w : World) (h : root_root.f k a0 = some r) :
    Calls Tryd.prog 92 #[.int .i64 a0] w fun e w' => e = .returned (.int .u64 r) ∧ Below w.heap.size w w' := by
  have HB := Aside0.mk (Below.refl w.heap.size w)
  have H : (if 0 ≤ (IntKind.u64.wrap (a0)) then ((gold_Pow.f k 7 (shr .u64 18446744069414584320 (IntKind.u64.wrap (a0)))).bind fun t176 => (some t176)) else (none)) = some r := h
  clear h
  obtain ⟨ji2, hji2⟩ : ∃ j_ : Int, (IntKind.u64.wrap (a0)) = j_ := ⟨_, rfl⟩
  replace H : (if 0 ≤ (ji2) then ((gold_Pow.f k 7 (shr .u64 18446744069414584320 (ji2))).bind fun t176 => (some t176)) else (none)) = some r := by first | (rw [hji2] at H; exact H) | (simp only [hji2] at H ⊢; exact H)
  by_cases c3 : 0 ≤ (ji2)
  · rw [if_pos c3] at H
    have c3b0 := eq_true c3
    have c3b1 : decide (0 ≤ (ji2)) = true := decide_eq_true c3
    clear c3
    obtain ⟨ji4, hji4⟩ : ∃ j_ : Int, (shr .u64 18446744069414584320 (ji2)) = j_ := ⟨_, rfl⟩
    replace H : ((gold_Pow.f k 7 (ji4)).bind fun t176 => (some t176)) = some r := by first | (rw [hji4] at H; exact H) | (simp only [hji4] at H ⊢; exact H)
    have hji4_ : (18446744069414584320 / 2 ^ min (ji2).toNat 64) = ji4 := hji4
    have hji4z : (ji2) ≤ 64 → (18446744069414584320 / 2 ^ (ji2).toNat) = ji4 := shr_small hji4
    replace H := Option.bind_eq_some_iff.mp H
    obtain ⟨t176, A50, H⟩ := H
    replace H : (some t176) = some r := H
    have A5 := Aside0.mk A50
    clear A50
    obtain rfl := Option.some.inj H
    go_enter Tryd.func92, Tryd.ntmps92
    go_wp2_with (first | ((with_reducible refine gate_callee (f := 89) rfl ?_); refine goesL_ (some 6) rfl rfl Tryd.func89 (by kernel_rfl) rfl #[.int .u64 7, .int .u64 ji4] rfl (by (try simp only [List.map_toArray, List.map_cons, List.map_nil]); first | done | (simp only [hji4]; rfl) | rfl | (simp only [List.length_drop, List.length_take]; rfl)) ?_; (with_reducible refine (gold_Pow.calls k 7 ji4 t176 _ A5.out).mono ?_); rintro e w6 ⟨rfl, hb⟩; refine ⟨_, rfl, ?_⟩; have n0_ := Aside0.mk (below_step (by repeat (first | (with_reducible first | exact HB.out | apply below_alloc | apply pw_below_drewN | apply below_drew1) | exact HB.out)) hb); clear HB; have HB := n0_; clear n0_; (try clear hb); (try clear hb2); (try clear hk); (try clear hi)))
    go_ret
    exact ⟨by first | rfl | (simp [errW_none, errW_some] <;> rfl) | (simp only [← hji2, ← hji4]; first | rfl | (simp [errW_none, errW_some] <;> rfl)) | (simp [*, errW_none, errW_some] <;> rfl), by repeat (first | (with_reducible first | exact HB.out | apply below_alloc | apply pw_below_drewN | apply below_drew1) | exact HB.out)⟩
  · rw [if_neg c3] at H
    exact absurd H (by simp)

/-! ### root_Root: function 87 -/
def root_Root.f (k : Nat) (a0 : Int) : Option (Int × Int) := (root_good.f a0).bind fun t177 => (if t177 = true then ((root_root.f k a0).bind fun t178 => (some (t178, 0))) else (some (0, 1)))
theorem root_Root.mono : ∀ a0 k, LeO (root_Root.f k a0) (root_Root.f (k + 1) a0) := by
  intro a0 k
  unfold root_Root.f
  repeat' first
      | (with_reducible exact root_root.mono _ _)
      | (with_reducible exact LeO.refl _)
      | (with_reducible exact LeO.none _)
      | (with_reducible refine LeO.ite ?_ ?_)
      | (with_reducible refine LeO.bind ?_ (fun _ => ?_))
      | exact root_root.mono _ _
      | exact LeO.none _
      | refine LeO.ite ?_ ?_
      | refine LeO.bind ?_ (fun _ => ?_)
set_option maxHeartbeats 8000000 in
set_option maxRecDepth 100000 in
theorem root_Root.calls (k : Nat) (a0 : Int) (r1 : Int) (r2 : Int) (w : World) (h : root_Root.f k a0 = some (r1, r2)) :
    Calls Tryd.prog 87 #[.int .i64 a0] w fun e w' => e = .returned (.tuple #[.int .u64 r1, .int .i64 r2]) ∧ Below w.heap.size w w' := by
  have HB := Aside0.mk (Below.refl w.heap.size w)
  have H : ((root_good.f a0).bind fun t177 => (if t177 = true then ((root_root.f k a0).bind fun t178 => (some (t178, 0))) else (some (0, 1)))) = some (r1, r2) := h
  clear h
  replace H := Option.bind_eq_some_iff.mp H
  obtain ⟨t177, A20, H⟩ := H
  replace H : (if t177 = true then ((root_root.f k a0).bind fun t178 => (some (t178, 0))) else (some (0, 1))) = some (r1, r2) := H
  have A2 := Aside0.mk A20
  clear A20
  by_cases c3 : t177 = true
  · subst c3
    have H1 : ((root_root.f k a0).bind fun t178 => (some (t178, 0))) = some (r1, r2) := by rw [if_pos rfl] at H; exact H
    clear H
    have H := H1
    clear H1
    replace H := Option.bind_eq_some_iff.mp H
    obtain ⟨t178, A40, H⟩ := H
    replace H : (some (t178, 0)) = some (r1, r2) := H
    have A4 := Aside0.mk A40
    clear A40
    simp only [Option.some.injEq, Prod.mk.injEq] at H
    obtain ⟨rfl, rfl⟩ := H
    go_enter Tryd.func87, Tryd.ntmps87
    go_wp2_with (first | ((with_reducible refine gate_callee (f := 91) rfl ?_); refine goesL_ (some 5) rfl rfl Tryd.func91 (by kernel_rfl) rfl #[.int .i64 a0] rfl (by (try simp only [List.map_toArray, List.map_cons, List.map_nil]); first | done | rfl | (simp only [List.length_drop, List.length_take]; rfl)) ?_; (with_reducible refine (root_good.calls a0 true _ A2.out).mono ?_); rintro e w' ⟨rfl, ⟨nd, rfl⟩⟩; refine ⟨_, rfl, ?_⟩) | ((with_reducible refine gate_callee (f := 92) rfl ?_); refine goesL_ (some 8) rfl rfl Tryd.func92 (by kernel_rfl) rfl #[.int .i64 a0] rfl (by (try simp only [List.map_toArray, List.map_cons, List.map_nil]); first | done | rfl | (simp only [List.length_drop, List.length_take]; rfl)) ?_; (with_reducible refine (root_root.calls k a0 t178 _ A4.out).mono ?_); rintro e w5 ⟨rfl, hb⟩; refine ⟨_, rfl, ?_⟩; have n0_ := Aside0.mk (below_step (by repeat (first | (with_reducible first | exact HB.out | apply below_alloc | apply pw_below_drewN | apply below_drew1) | exact HB.out)) hb); clear HB; have HB := n0_; clear n0_; (try clear hb); (try clear hb2); (try clear hk); (try clear hi)))
    go_ret2
    exact ⟨by first | rfl | (simp [errW_none, errW_some] <;> rfl) | (simp [*, errW_none, errW_some] <;> rfl), by repeat (first | (with_reducible first | exact HB.out | apply below_alloc | apply pw_below_drewN | apply below_drew1) | exact HB.out)⟩
  · replace c3 := Bool.eq_false_iff.mpr c3
    subst c3
    have H1 : (some (0, 1)) = some (r1, r2) := by rw [if_neg (show ¬ (false = true) by decide)] at H; exact H
    clear H
    have H := H1
    clear H1
    simp only [Option.some.injEq, Prod.mk.injEq] at H
    obtain ⟨rfl, rfl⟩ := H
    go_enter Tryd.func87, Tryd.ntmps87
    go_wp2_with (first | ((with_reducible refine gate_callee (f := 91) rfl ?_); refine goesL_ (some 5) rfl rfl Tryd.func91 (by kernel_rfl) rfl #[.int .i64 a0] rfl (by (try simp only [List.map_toArray, List.map_cons, List.map_nil]); first | done | rfl | (simp only [List.length_drop, List.length_take]; rfl)) ?_; (with_reducible refine (root_good.calls a0 false _ A2.out).mono ?_); rintro e w' ⟨rfl, ⟨nd, rfl⟩⟩; refine ⟨_, rfl, ?_⟩))
    go_ret2
    exact ⟨by first | rfl | (simp [errW_none, errW_some] <;> rfl) | (simp [*, errW_none, errW_some] <;> rfl), by repeat (first | (with_reducible first | exact HB.out | apply below_alloc | apply pw_below_drewN | apply below_drew1) | exact HB.out)⟩

/-! ### root_Back: function 88 -/
def root_Back.f (k : Nat) (a0 : Int) : Option (Int × Int) := (root_good.f a0).bind fun t179 => (if t179 = true then ((root_root.f k a0).bind fun t180 => ((gold_Inv.f k t180).bind fun bt181 => (some (bt181.1, bt181.2)))) else (some (0, 1)))
theorem root_Back.mono : ∀ a0 k, LeO (root_Back.f k a0) (root_Back.f (k + 1) a0) := by
  intro a0 k
  unfold root_Back.f
  repeat' first
      | (with_reducible exact gold_Inv.mono _ _)
      | (with_reducible exact root_root.mono _ _)
      | (with_reducible exact LeO.refl _)
      | (with_reducible exact LeO.none _)
      | (with_reducible refine LeO.ite ?_ ?_)
      | (with_reducible refine LeO.bind ?_ (fun _ => ?_))
      | exact gold_Inv.mono _ _
      | exact root_root.mono _ _
      | exact LeO.none _
      | refine LeO.ite ?_ ?_
      | refine LeO.bind ?_ (fun _ => ?_)
set_option maxHeartbeats 8000000 in
set_option maxRecDepth 100000 in
theorem root_Back.calls (k : Nat) (a0 : Int) (r1 : Int) (r2 : Int) (w : World) (h : root_Back.f k a0 = some (r1, r2)) :
    Calls Tryd.prog 88 #[.int .i64 a0] w fun e w' => e = .returned (.tuple #[.int .u64 r1, .int .i64 r2]) ∧ Below w.heap.size w w' := by
  have HB := Aside0.mk (Below.refl w.heap.size w)
  have H : ((root_good.f a0).bind fun t179 => (if t179 = true then ((root_root.f k a0).bind fun t180 => ((gold_Inv.f k t180).bind fun bt181 => (some (bt181.1, bt181.2)))) else (some (0, 1)))) = some (r1, r2) := h
  clear h
  replace H := Option.bind_eq_some_iff.mp H
  obtain ⟨t179, A20, H⟩ := H
  replace H : (if t179 = true then ((root_root.f k a0).bind fun t180 => ((gold_Inv.f k t180).bind fun bt181 => (some (bt181.1, bt181.2)))) else (some (0, 1))) = some (r1, r2) := H
  have A2 := Aside0.mk A20
  clear A20
  by_cases c3 : t179 = true
  · subst c3
    have H1 : ((root_root.f k a0).bind fun t180 => ((gold_Inv.f k t180).bind fun bt181 => (some (bt181.1, bt181.2)))) = some (r1, r2) := by rw [if_pos rfl] at H; exact H
    clear H
    have H := H1
    clear H1
    replace H := Option.bind_eq_some_iff.mp H
    obtain ⟨t180, A40, H⟩ := H
    replace H : ((gold_Inv.f k t180).bind fun bt181 => (some (bt181.1, bt181.2))) = some (r1, r2) := H
    have A4 := Aside0.mk A40
    clear A40
    replace H := Option.bind_eq_some_iff.mp H
    obtain ⟨⟨t181, t182⟩, A50, H⟩ := H
    replace H : (some (t181, t182)) = some (r1, r2) := H
    have A5 := Aside0.mk A50
    clear A50
    simp only [Option.some.injEq, Prod.mk.injEq] at H
    obtain ⟨rfl, rfl⟩ := H
    go_enter Tryd.func88, Tryd.ntmps88
    go_wp2_with (first | ((with_reducible refine gate_callee (f := 91) rfl ?_); refine goesL_ (some 5) rfl rfl Tryd.func91 (by kernel_rfl) rfl #[.int .i64 a0] rfl (by (try simp only [List.map_toArray, List.map_cons, List.map_nil]); first | done | rfl | (simp only [List.length_drop, List.length_take]; rfl)) ?_; (with_reducible refine (root_good.calls a0 true _ A2.out).mono ?_); rintro e w' ⟨rfl, ⟨nd, rfl⟩⟩; refine ⟨_, rfl, ?_⟩) | ((with_reducible refine gate_callee (f := 92) rfl ?_); refine goesL_ (some 8) rfl rfl Tryd.func92 (by kernel_rfl) rfl #[.int .i64 a0] rfl (by (try simp only [List.map_toArray, List.map_cons, List.map_nil]); first | done | rfl | (simp only [List.length_drop, List.length_take]; rfl)) ?_; (with_reducible refine (root_root.calls k a0 t180 _ A4.out).mono ?_); rintro e w6 ⟨rfl, hb⟩; refine ⟨_, rfl, ?_⟩; have n0_ := Aside0.mk (below_step (by repeat (first | (with_reducible first | exact HB.out | apply below_alloc | apply pw_below_drewN | apply below_drew1) | exact HB.out)) hb); clear HB; have HB := n0_; clear n0_; (try clear hb); (try clear hb2); (try clear hk); (try clear hi)) | ((with_reducible refine gate_callee (f := 80) rfl ?_); refine goesL_ (some 9) rfl rfl Tryd.func80 (by kernel_rfl) rfl #[.int .u64 t180] rfl (by (try simp only [List.map_toArray, List.map_cons, List.map_nil]); first | done | rfl | (simp only [List.length_drop, List.length_take]; rfl)) ?_; (with_reducible refine (gold_Inv.calls k t180 t181 t182 _ A5.out).mono ?_); rintro e w7 ⟨rfl, hb⟩; refine ⟨_, rfl, ?_⟩; have n0_ := Aside0.mk (below_step (by repeat (first | (with_reducible first | exact HB.out | apply below_alloc | apply pw_below_drewN | apply below_drew1) | exact HB.out)) hb); clear HB; have HB := n0_; clear n0_; (try clear hb); (try clear hb2); (try clear hk); (try clear hi)))
    go_ret2
    exact ⟨by first | rfl | (simp [errW_none, errW_some] <;> rfl) | (simp [*, errW_none, errW_some] <;> rfl), by repeat (first | (with_reducible first | exact HB.out | apply below_alloc | apply pw_below_drewN | apply below_drew1) | exact HB.out)⟩
  · replace c3 := Bool.eq_false_iff.mpr c3
    subst c3
    have H1 : (some (0, 1)) = some (r1, r2) := by rw [if_neg (show ¬ (false = true) by decide)] at H; exact H
    clear H
    have H := H1
    clear H1
    simp only [Option.some.injEq, Prod.mk.injEq] at H
    obtain ⟨rfl, rfl⟩ := H
    go_enter Tryd.func88, Tryd.ntmps88
    go_wp2_with (first | ((with_reducible refine gate_callee (f := 91) rfl ?_); refine goesL_ (some 5) rfl rfl Tryd.func91 (by kernel_rfl) rfl #[.int .i64 a0] rfl (by (try simp only [List.map_toArray, List.map_cons, List.map_nil]); first | done | rfl | (simp only [List.length_drop, List.length_take]; rfl)) ?_; (with_reducible refine (root_good.calls a0 false _ A2.out).mono ?_); rintro e w' ⟨rfl, ⟨nd, rfl⟩⟩; refine ⟨_, rfl, ?_⟩))
    go_ret2
    exact ⟨by first | rfl | (simp [errW_none, errW_some] <;> rfl) | (simp [*, errW_none, errW_some] <;> rfl), by repeat (first | (with_reducible first | exact HB.out | apply below_alloc | apply pw_below_drewN | apply below_drew1) | exact HB.out)⟩

/-! ### twid_Root: function 79 -/
def twid_Root.j0 : Nat → Int → Int → Bool → Option (Int × Int)
  | 0, _, _, _ => none
  | k + 1, x0, x1, x6 => if x6 = true then (some (0, 1)) else (if x1 = 0 then ((root_Root.f k x0).bind fun bt183 => (some (bt183.1, bt183.2))) else (if x1 = 1 then ((root_Back.f k x0).bind fun bt185 => (some (bt185.1, bt185.2))) else (some (0, 18))))
def twid_Root.f (k : Nat) (a0 : Int) (a1 : Int) : Option (Int × Int) := if a0 < 0 then (twid_Root.j0 k a0 a1 true) else (twid_Root.j0 k a0 a1 (decide (a0 > 32)))
theorem twid_Root.mono_l : ∀ k, (∀ y0 y1 y2, LeO (twid_Root.j0 k y0 y1 y2) (twid_Root.j0 (k + 1) y0 y1 y2))
  | 0 => fun _ _ _ r h => by simp [twid_Root.j0] at h
  | k + 1 => by
    have ih0 := twid_Root.mono_l k
    · intro y0 y1 y2
      unfold twid_Root.j0
      repeat' first
      | (with_reducible exact ih0 _ _ _)
      | (with_reducible exact root_Back.mono _ _)
      | (with_reducible exact root_Root.mono _ _)
      | (with_reducible exact LeO.refl _)
      | (with_reducible exact LeO.none _)
      | (with_reducible refine LeO.ite ?_ ?_)
      | (with_reducible refine LeO.bind ?_ (fun _ => ?_))
      | exact ih0 _ _ _
      | exact root_Back.mono _ _
      | exact root_Root.mono _ _
      | exact LeO.none _
      | refine LeO.ite ?_ ?_
      | refine LeO.bind ?_ (fun _ => ?_)
theorem twid_Root.mono : ∀ a0 a1 k, LeO (twid_Root.f k a0 a1) (twid_Root.f (k + 1) a0 a1) := by
  intro a0 a1 k
  have ih0 := twid_Root.mono_l k
  unfold twid_Root.f
  repeat' first
      | (with_reducible exact ih0 _ _ _)
      | (with_reducible exact root_Back.mono _ _)
      | (with_reducible exact root_Root.mono _ _)
      | (with_reducible exact LeO.refl _)
      | (with_reducible exact LeO.none _)
      | (with_reducible refine LeO.ite ?_ ?_)
      | (with_reducible refine LeO.bind ?_ (fun _ => ?_))
      | exact ih0 _ _ _
      | exact root_Back.mono _ _
      | exact root_Root.mono _ _
      | exact LeO.none _
      | refine LeO.ite ?_ ?_
      | refine LeO.bind ?_ (fun _ => ?_)
set_option maxHeartbeats 8000000 in
set_option maxRecDepth 100000 in
theorem twid_Root.calls (k : Nat) (a0 : Int) (a1 : Int) (r1 : Int) (r2 : Int) (w : World) (h : twid_Root.f k a0 a1 = some (r1, r2)) :
    Calls Tryd.prog 79 #[.int .i64 a0, .int .i64 a1] w fun e w' => e = .returned (.tuple #[.int .u64 r1, .int .i64 r2]) ∧ Below w.heap.size w w' := by
  have HB := Aside0.mk (Below.refl w.heap.size w)
  have H : (if a0 < 0 then (twid_Root.j0 k a0 a1 true) else (twid_Root.j0 k a0 a1 (decide (a0 > 32)))) = some (r1, r2) := h
  clear h
  have HC3 := Aside0.mk H
  clear H
  go_enter Tryd.func79, Tryd.ntmps79
  go_upto_region 1 with (fail)
  go_cut [6] (fun v6 wc => ∃ (kq : Nat) (x6_2 : Bool), v6 = .bool x6_2 ∧ Aside0 (twid_Root.j0 kq a0 a1 x6_2 = some (r1, r2)) ∧ Aside0 (kq ≤ k) ∧ Aside0 (Below w.heap.size w wc))
  case first =>
    have H := HC3.out
    clear HC3
    by_cases c4 : a0 < 0
    · rw [if_pos c4] at H
      have c4b0 : decide (a0 < 0) = true := decide_eq_true c4
      clear c4
      (first | rw [c4b0] | (simp only [i64_w, i32_w]; rw [c4b0]) | skip)
      have H' := Aside0.mk H
      clear H
      go_wp2
      go_meet
      case rel => exact ⟨_, (true), (by first | rfl | (simp; done) | (simp [*]; done)), H', ⟨by first | omega | exact Nat.le_refl _⟩, ⟨by repeat (first | (with_reducible first | exact HB.out | apply below_alloc | apply pw_below_drewN | apply below_drew1) | exact HB.out)⟩⟩
    · rw [if_neg c4] at H
      have c4b0 : decide (a0 < 0) = false := decide_eq_false c4
      clear c4
      (first | rw [c4b0] | (simp only [i64_w, i32_w]; rw [c4b0]) | skip)
      have H' := Aside0.mk H
      clear H
      go_wp2
      go_meet
      case rel => exact ⟨_, (decide (a0 > 32)), (by first | rfl | (simp; done) | (simp [*]; done)), H', ⟨by first | omega | exact Nat.le_refl _⟩, ⟨by repeat (first | (with_reducible first | exact HB.out | apply below_alloc | apply pw_below_drewN | apply below_drew1) | exact HB.out)⟩⟩
  case rest =>
    clear HC3
    try clear p2
    try clear c4
    try clear c4b0
    obtain ⟨kq, x6_2, rfl, HA, HJ2, HB⟩ := hcut
    cases kq with
    | zero => exact absurd HA.out (by simp [twid_Root.j0])
    | succ kj2 =>
      have H := HA.out
      clear HA
      simp only [twid_Root.j0] at H
      by_cases c5 : x6_2 = true
      · subst c5
        have H1 : (some (0, 1)) = some (r1, r2) := by rw [if_pos rfl] at H; exact H
        clear H
        have H := H1
        clear H1
        simp only [Option.some.injEq, Prod.mk.injEq] at H
        obtain ⟨rfl, rfl⟩ := H
        go_wp2
        go_ret2
        exact ⟨by first | rfl | (simp [errW_none, errW_some] <;> rfl) | (simp [*, errW_none, errW_some] <;> rfl), by repeat (first | (with_reducible first | exact HB.out | apply below_alloc | apply pw_below_drewN | apply below_drew1) | exact HB.out)⟩
      · replace c5 := Bool.eq_false_iff.mpr c5
        subst c5
        have H1 : (if a1 = 0 then ((root_Root.f kj2 a0).bind fun bt183 => (some (bt183.1, bt183.2))) else (if a1 = 1 then ((root_Back.f kj2 a0).bind fun bt185 => (some (bt185.1, bt185.2))) else (some (0, 18)))) = some (r1, r2) := by rw [if_neg (show ¬ (false = true) by decide)] at H; exact H
        clear H
        have H := H1
        clear H1
        by_cases c6 : a1 = 0
        · rw [if_pos c6] at H
          have c6b0 : (a1 == 0) = true := beq_iff_eq.mpr c6
          have c6b1 : (a1 != 0) = false := bne_eq_false_iff_eq.mpr c6
          clear c6
          replace H := Option.bind_eq_some_iff.mp H
          obtain ⟨⟨t183, t184⟩, A70, H⟩ := H
          replace H : (some (t183, t184)) = some (r1, r2) := H
          have A7 := Aside0.mk A70
          clear A70
          simp only [Option.some.injEq, Prod.mk.injEq] at H
          obtain ⟨rfl, rfl⟩ := H
          go_wp2_with (first | ((with_reducible refine gate_callee (f := 87) rfl ?_); refine goesL_ (some 17) rfl rfl Tryd.func87 (by kernel_rfl) rfl #[.int .i64 a0] rfl (by (try simp only [List.map_toArray, List.map_cons, List.map_nil]); first | done | rfl | (simp only [List.length_drop, List.length_take]; rfl)) ?_; (with_reducible refine (root_Root.calls kj2 a0 t183 t184 _ A7.out).mono ?_); rintro e w8 ⟨rfl, hb⟩; refine ⟨_, rfl, ?_⟩; have n0_ := Aside0.mk (below_step (by repeat (first | (with_reducible first | exact HB.out | apply below_alloc | apply pw_below_drewN | apply below_drew1) | exact HB.out)) hb); clear HB; have HB := n0_; clear n0_; (try clear hb); (try clear hb2); (try clear hk); (try clear hi)))
          go_ret2
          exact ⟨by first | rfl | (simp [errW_none, errW_some] <;> rfl) | (simp [*, errW_none, errW_some] <;> rfl), by repeat (first | (with_reducible first | exact HB.out | apply below_alloc | apply pw_below_drewN | apply below_drew1) | exact HB.out)⟩
        · rw [if_neg c6] at H
          have c6b0 : (a1 == 0) = false := beq_eq_false_iff_ne.mpr c6
          have c6b1 : (a1 != 0) = true := bne_iff_ne.mpr c6
          by_cases c9 : a1 = 1
          · rw [if_pos c9] at H
            have c9b0 : (a1 == 1) = true := beq_iff_eq.mpr c9
            have c9b1 : (a1 != 1) = false := bne_eq_false_iff_eq.mpr c9
            clear c9
            replace H := Option.bind_eq_some_iff.mp H
            obtain ⟨⟨t185, t186⟩, A100, H⟩ := H
            replace H : (some (t185, t186)) = some (r1, r2) := H
            have A10 := Aside0.mk A100
            clear A100
            simp only [Option.some.injEq, Prod.mk.injEq] at H
            obtain ⟨rfl, rfl⟩ := H
            go_wp2_with (first | ((with_reducible refine gate_callee (f := 88) rfl ?_); refine goesL_ (some 24) rfl rfl Tryd.func88 (by kernel_rfl) rfl #[.int .i64 a0] rfl (by (try simp only [List.map_toArray, List.map_cons, List.map_nil]); first | done | rfl | (simp only [List.length_drop, List.length_take]; rfl)) ?_; (with_reducible refine (root_Back.calls kj2 a0 t185 t186 _ A10.out).mono ?_); rintro e w11 ⟨rfl, hb⟩; refine ⟨_, rfl, ?_⟩; have n0_ := Aside0.mk (below_step (by repeat (first | (with_reducible first | exact HB.out | apply below_alloc | apply pw_below_drewN | apply below_drew1) | exact HB.out)) hb); clear HB; have HB := n0_; clear n0_; (try clear hb); (try clear hb2); (try clear hk); (try clear hi)))
            go_ret2
            exact ⟨by first | rfl | (simp [errW_none, errW_some] <;> rfl) | (simp [*, errW_none, errW_some] <;> rfl), by repeat (first | (with_reducible first | exact HB.out | apply below_alloc | apply pw_below_drewN | apply below_drew1) | exact HB.out)⟩
          · rw [if_neg c9] at H
            have c9b0 : (a1 == 1) = false := beq_eq_false_iff_ne.mpr c9
            have c9b1 : (a1 != 1) = true := bne_iff_ne.mpr c9
            simp only [Option.some.injEq, Prod.mk.injEq] at H
            obtain ⟨rfl, rfl⟩ := H
            go_wp2
            go_ret2
            exact ⟨by first | rfl | (simp [errW_none, errW_some] <;> rfl) | (simp [*, errW_none, errW_some] <;> rfl), by repeat (first | (with_reducible first | exact HB.out | apply below_alloc | apply pw_below_drewN | apply below_drew1) | exact HB.out)⟩

end Go.Proofs.YtaiahgnkgbfcfaaDoor.PNaturalTexts
