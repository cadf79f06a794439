-- Written for this claim by wip/gen/mk.sh, this session's own driver over the kit's print
import Derived.Test.YtnmjomcpkckihaaDoorPChirpTwosx0
import Derived.Test.YtnmjomcpkckihaaDoorPChirpTwosx1
import Derived.Test.YtnmjomcpkckihaaDoorPChirpTwosx2
import Derived.Test.YtnmjomcpkckihaaDoorPChirpTwosx3
namespace Go.Proofs.YtnmjomcpkckihaaDoor.PChirpTwos
open Go.RowKit Go.Proofs.YtnmjomcpkckihaaDoorW.PrintWords Go.Proofs.YtnmjomcpkckihaaDoorW.PrintLast Go.Proofs.YtnmjomcpkckihaaDoorW.PrintMore
attribute [local go_sem] max2_int min2_int max_two min_two max_three min_three max_four min_four   -- for this text's walks alone
set_option linter.unusedVariables false
set_option linter.unusedSimpArgs false

/-! ### kern4_Kernel_Run: function 55 (by hand) -/
theorem hk4_scale_at (k : Nat) (A0 : Option Addr) (c0 m : Nat) (l0 : List Int) (a1 : Int) (r : List Int) (w : World) (hm : m = l0.length) (hr0 : Kd.C (Kd.int .u64) w A0 l0.length l0) (hc0 : l0.length ≤ c0) (h : twid_Scale.f k l0 a1 = some r) :
    Calls Tryd.prog 61 #[.slice A0 m c0, .int .u64 a1] w fun e w' => ∃ v0_ : Value, e = .returned (v0_) ∧ Kd.R (Kd.int .u64) 23 w' w.heap.size (fun _ => True) v0_ r ∧ Below w.heap.size w w' := by
  subst hm
  exact twid_Scale.calls k A0 c0 l0 a1 r w hr0 hc0 h
set_option maxHeartbeats 800000 in
set_option maxRecDepth 100000 in
theorem kern4_Run.calls (n k : Nat) (hk : k ≤ 20) (u : Value) (l0 pd sc r : List Int) (b b2 : Nat) (v0 v1 x0 x1 x2 : Value) (u0 u1 ud s d : Int) (PD : Option Addr) (cd : Nat) (S : Nat → Prop) (hS : ∀ j, S j ↔ u.ownBlock = some j) (w0 w : World) (hB : Below w0.heap.size w0 w)
    (ho0 : Kd.R (Kd.int .u64) 23 w w0.heap.size S u l0)
    (hX : ∀ W, Kept w W S → W.heap[b]? = some (.cells #[.pointer (some ⟨b2, 0, none⟩), v0, v1, .int .u64 u0, .int .u64 u1, .int .u64 s] 85 (0, 0)))
    (hX2 : ∀ W, Kept w W S → W.heap[b2]? = some (.cells #[x0, x1, x2, .int .i64 (k : Int)] 99 (0, 0)))
    (hT : ∀ W, Kept w W S → Kd.C (Kd.int .u64) W PD pd.length pd)
    (hv : (d = 0 ∧ v0 = .slice PD pd.length cd ∧ ud = u0) ∨ (d = 1 ∧ v1 = .slice PD pd.length cd ∧ ud = u1))
    (hl : l0.length = 2 ^ k) (hsc : twid_Scale.f n l0 1 = some sc) (hscl : sc.length = l0.length) (hpl : l0.length ≤ pd.length) (hpl2 : pd.length ≤ 1048576) (h : hk_k4r pd ud k sc = some r) (rr : List Int) (h2 : (d = 0 ∧ rr = r) ∨ (d = 1 ∧ twid_Scale.f n r s = some rr ∧ rr.length = r.length)) :
    Calls Tryd.prog 55 #[.pointer (some ⟨b, 0, none⟩), u, .int .i64 d] w fun e w' => e = .returned (.int .i64 0) ∧ Kd.R (Kd.int .u64) 23 w' w0.heap.size S u rr ∧ Below w0.heap.size w0 w' ∧ Kept w w' S := by
  have C := Aside0.mk (kern4_Plain.calls n k hk u l0 pd sc r b b2 v0 v1 x0 x1 x2 u0 u1 ud s d PD cd S hS w0 w hB ho0 hX hX2 hT hv hl hsc hscl hpl hpl2 h)
  obtain ⟨g, co, eo, gb, gl, cl, hGG⟩ := Kd.R_form ho0 (by rw [hl]; exact Nat.two_pow_pos k)
  subst eo
  have HX := Aside0.mk hX
  have HP := Aside0.mk (show 0 < l0.length by rw [hl]; exact Nat.two_pow_pos k)
  have HSG := Aside0.mk (show S g from (hS g).2 rfl)
  have GB := Aside0.mk gb
  have H2 := Aside0.mk h2
  clear hk hB hX hX2 hT hl hsc hscl ho0 gb gl hGG hS hv hpl hpl2 h h2
  rcases H2.out with ⟨rfl, rfl⟩ | ⟨rfl, h2, hr2⟩
  · clear H2
    go_enter Tryd.func55, Tryd.ntmps55
    go_wp2_with (go_at_call 60; (with_reducible refine (C.out).mono ?_); rintro e w1 ⟨rfl, hR, hB, hK⟩; have hR := Aside0.mk hR; have hB := Aside0.mk hB; have hK := Aside0.mk hK)
    go_ret
    exact ⟨rfl, hR.out, hB.out, hK.out⟩
  · have HR2 := Aside0.mk hr2
    have HS2 := Aside0.mk h2
    clear H2 hr2 h2
    go_enter Tryd.func55, Tryd.ntmps55
    go_wp2_with (first | (go_at_call 60; (with_reducible refine (C.out).mono ?_); rintro e w1 ⟨rfl, hR, hB, hK⟩; have hc2 := hk_blk_cell (HX.out _ hK) 5 _ rfl; have hR := Aside0.mk hR; have hB := Aside0.mk hB; have hK := Aside0.mk hK) | (go_at_call 61; (with_reducible refine (hk4_scale_at n (some ⟨g, 0, none⟩) co l0.length r s rr _ (Kd.R_reads' hR.out).1 (Kd.R_reads' hR.out).2.2 ?hco HS2.out).mono ?_); (case hco => have h1 := Kd.R_reads' hR.out; omega); rintro e w3 ⟨vs, rfl, hs3, hb3⟩; obtain ⟨As, cs_, ev⟩ := Kd.R_slice hs3; rw [show rr.length = l0.length from HR2.out.trans (Kd.R_reads' hR.out).1.symm] at ev; subst ev; have hR3 := Aside0.mk (Kd.R_below hR.out hb3); have hB3 := Aside0.mk (hB.out.trans (hb3.mono hB.out.size)); have hK3 := Aside0.mk (hK.out.below hb3); have hs3 := Aside0.mk (Kd.R_reads' hs3).2.2; clear hb3) | ((with_reducible refine hk_wpList_copy_whole (o := ⟨some 25, _, _, _, _, _⟩) rfl (.tmp 18) (.tmp 24) 22 23 rfl Tryd.underlying22 ?ci g l0.length co As cs_ ?cd ?cs hR3.out hs3.out ?cl HP.out ?_); (case ci => rfl); (case cd => rfl); (case cs => rfl); (case cl => exact HR2.out.trans (Kd.R_reads' hR3.out).1.symm); intro w4 hR4 hg4; have hB4 := Aside0.mk (hB3.out.trans ⟨hg4.os, hg4.tape, hg4.output, hg4.size, fun q hq => hg4.block q (Nat.lt_of_lt_of_le hq hB3.out.size) (fun e => by have := GB.out; injection e with e; omega)⟩); have hK4 := Aside0.mk (Kept.of_grown hg4 hK3.out (fun q hq => .inl (by injection hq with hq; rw [← hq]; exact HSG.out))); have hR4 := Aside0.mk hR4; clear hg4))
    go_ret
    exact ⟨rfl, hR4.out, hB4.out, hK4.out⟩
/-- What a transform by quarters makes, undivided (plain) or as it is. -/
def hk_run4 (n k : Nat) (t0 t1 : List Int) (u0 u1 s d : Int) (plain : Bool) (l0 rr : List Int) : Prop :=
  ∃ sc r, (d = 0 ∨ d = 1) ∧ twid_Scale.f n l0 1 = some sc ∧ sc.length = l0.length ∧ l0.length = 2 ^ k ∧ (if d = 0 then t0 else t1).length = 2 ^ k ∧ hk_k4r (if d = 0 then t0 else t1) (if d = 0 then u0 else u1) k sc = some r ∧ (((plain = true ∨ d = 0) ∧ rr = r) ∨ (plain = false ∧ d = 1 ∧ twid_Scale.f n r s = some rr ∧ rr.length = r.length))
theorem hk_Run4.use (n k : Nat) (hk : k ≤ 20) (u : Value) (l0 rr t0 t1 : List Int) (u0 u1 s d : Int) (lo hi b : Nat) (plain : Bool) (w0 w : World) (hB : Below w0.heap.size w0 w) (K : hk_K4 k t0 t1 u0 u1 s lo hi b w)
    (ho : Kd.R (Kd.int .u64) 23 w w0.heap.size (fun _ => True) u l0) (hu : ∀ j, u.ownBlock = some j → j < lo ∨ hi ≤ j) (h : hk_run4 n k t0 t1 u0 u1 s d plain l0 rr) :
    Calls Tryd.prog (if plain = true then 60 else 55) #[.pointer (some ⟨b, 0, none⟩), u, .int .i64 d] w fun e w' => e = .returned (.int .i64 0) ∧ Kd.R (Kd.int .u64) 23 w' w0.heap.size (fun _ => True) u rr ∧ Below w0.heap.size w0 w' ∧ Kept w w' (fun j => u.ownBlock = some j) := by
  obtain ⟨sc, r, hd, hsc, hscl, hl, hpl, hr, h2⟩ := h
  obtain ⟨⟨h0, h1⟩, b2, v0, v1, x0, x1, x2, hb2, hX, hX2, hR0, hR1⟩ := K
  have hp20 : 2 ^ k ≤ 1048576 := Nat.pow_le_pow_right (n := 2) (by omega) hk
  have far : ∀ j, lo ≤ j → j < hi → ¬ u.ownBlock = some j := fun j hl hj e => by have := hu j e; omega
  have hoS : Kd.R (Kd.int .u64) 23 w w0.heap.size (fun j => u.ownBlock = some j) u l0 := Kd.R_flat (fun h => h) ho (fun q hq _ => hq)
  obtain ⟨D0, m0, rfl⟩ := Kd.R_slice hR0
  obtain ⟨D1, m1, rfl⟩ := Kd.R_slice hR1
  have key : ∀ (pd : List Int) (ud : Int) (PD : Option Addr) (cd : Nat), pd.length = 2 ^ k → hk_k4r pd ud k sc = some r → Kd.R (Kd.int .u64) 23 w lo (fun j => j < hi) (.slice PD pd.length cd) pd → ((d = 0 ∧ (Value.slice D0 t0.length m0) = .slice PD pd.length cd ∧ ud = u0) ∨ (d = 1 ∧ (Value.slice D1 t1.length m1) = .slice PD pd.length cd ∧ ud = u1)) →
      Calls Tryd.prog (if plain = true then 60 else 55) #[.pointer (some ⟨b, 0, none⟩), u, .int .i64 d] w fun e w' => e = .returned (.int .i64 0) ∧ Kd.R (Kd.int .u64) 23 w' w0.heap.size (fun _ => True) u rr ∧ Below w0.heap.size w0 w' ∧ Kept w w' (fun j => u.ownBlock = some j) := by
    intro pd ud PD cd hpd hr hR hv
    have hT : ∀ W, Kept w W (fun j => u.ownBlock = some j) → Kd.C (Kd.int .u64) W PD pd.length pd := Kd.C_kept_own (S := fun j => u.ownBlock = some j) (Kd.R_bound hR) (fun q hq => far q hq.2.1 hq.1)
    cases plain with
    | true =>
      rw [if_pos rfl]
      rcases h2 with ⟨_, rfl⟩ | ⟨hf, _⟩
      · refine (kern4_Plain.calls n k hk u l0 pd sc rr b b2 _ _ x0 x1 x2 u0 u1 ud s d PD cd (fun j => u.ownBlock = some j) (fun _ => Iff.rfl) w0 w hB hoS (fun W hW => blk_kept hX hW (far _ h0 h1)) (fun W hW => blk_kept hX2 hW (far _ hb2.1 hb2.2)) hT hv hl hsc hscl (by omega) (by omega) hr).mono ?_
        rintro e w' ⟨he, hR', hB', hK'⟩
        exact ⟨he, Kd.R_mono hR' (fun _ _ => trivial), hB', hK'⟩
      · cases hf
    | false =>
      rw [if_neg (by decide)]
      refine (kern4_Run.calls n k hk u l0 pd sc r b b2 _ _ x0 x1 x2 u0 u1 ud s d PD cd (fun j => u.ownBlock = some j) (fun _ => Iff.rfl) w0 w hB hoS (fun W hW => blk_kept hX hW (far _ h0 h1)) (fun W hW => blk_kept hX2 hW (far _ hb2.1 hb2.2)) hT hv hl hsc hscl (by omega) (by omega) hr rr ?_).mono ?_
      · rcases h2 with ⟨hq | hq, e⟩ | ⟨_, hq, e⟩
        · cases hq
        · exact .inl ⟨hq, e⟩
        · exact .inr ⟨hq, e⟩
      · rintro e w' ⟨he, hR', hB', hK'⟩
        exact ⟨he, Kd.R_mono hR' (fun _ _ => trivial), hB', hK'⟩
  rcases hd with rfl | rfl
  · exact key t0 u0 D0 m0 hpl hr hR0 (.inl ⟨rfl, rfl, rfl⟩)
  · exact key t1 u1 D1 m1 hpl hr hR1 (.inr ⟨rfl, rfl, rfl⟩)
set_option maxHeartbeats 800000 in
set_option maxRecDepth 100000 in
theorem kern4_Plain.err (k : Nat) (hk : k ≤ 20) (t0 t1 : List Int) (u0 u1 s : Int) (lo hi b : Nat) (A : Option Addr) (m c : Nat) (d er : Int) (w : World) (K : hk_K4 k t0 t1 u0 u1 s lo hi b w) (h : hk_err k m d er) :
    Calls Tryd.prog 60 #[.pointer (some ⟨b, 0, none⟩), .slice A m c, .int .i64 d] w fun e w' => e = .returned (.int .i64 er) ∧ Drawn0 w w' := by
  obtain ⟨_, b2, v0, v1, x0, x1, x2, _, hX, hX2, _, _⟩ := K
  have HX2 := Aside0.mk hX2
  have hc0 := hk_blk_cell hX 0 _ rfl
  have hs := hk_shl_k hk
  clear hX hX2 hk
  rcases h with ⟨hm, rfl⟩ | ⟨hm, hd, rfl⟩
  · have hcond : ((m : Int) != wrap64 (2 ^ min (IntKind.u64.wrap (k : Int)).toNat 64)) = true := by rw [hs]; exact bne_iff_ne.2 (by omega)
    clear hs hm
    go_enter Tryd.func60, Tryd.ntmps60
    go_wp2_with (go_at_call 66; (with_reducible refine (hk_kern2_K.calls b2 x0 x1 x2 k _ HX2.out).mono ?_); rintro e w1 ⟨rfl, hb1⟩; have hb1 := Aside0.mk hb1)
    go_ret
    exact ⟨rfl, by repeat (first | exact hb1.out | apply Drawn0.step)⟩
  · have hcond : ((m : Int) != wrap64 (2 ^ min (IntKind.u64.wrap (k : Int)).toNat 64)) = false := by rw [hs, hm]; exact bne_self_eq_false _
    clear hs hm
    by_cases c : d < 0
    · have d1 : decide (d < 0) = true := decide_eq_true c
      clear c hd
      go_enter Tryd.func60, Tryd.ntmps60
      go_wp2_with (go_at_call 66; (with_reducible refine (hk_kern2_K.calls b2 x0 x1 x2 k _ HX2.out).mono ?_); rintro e w1 ⟨rfl, hb1⟩; have hb1 := Aside0.mk hb1)
      go_ret
      exact ⟨rfl, by repeat (first | exact hb1.out | apply Drawn0.step)⟩
    · have d1 : decide (d < 0) = false := decide_eq_false c
      have d2 : decide (1 < d) = true := decide_eq_true (by omega)
      clear c hd
      go_enter Tryd.func60, Tryd.ntmps60
      go_wp2_with (go_at_call 66; (with_reducible refine (hk_kern2_K.calls b2 x0 x1 x2 k _ HX2.out).mono ?_); rintro e w1 ⟨rfl, hb1⟩; have hb1 := Aside0.mk hb1)
      go_ret
      exact ⟨rfl, by repeat (first | exact hb1.out | apply Drawn0.step)⟩
set_option maxHeartbeats 800000 in
set_option maxRecDepth 100000 in
theorem kern4_Run.err (k : Nat) (hk : k ≤ 20) (t0 t1 : List Int) (u0 u1 s : Int) (lo hi b : Nat) (A : Option Addr) (m c : Nat) (d er : Int) (w : World) (K : hk_K4 k t0 t1 u0 u1 s lo hi b w) (h : hk_err k m d er) :
    Calls Tryd.prog 55 #[.pointer (some ⟨b, 0, none⟩), .slice A m c, .int .i64 d] w fun e w' => e = .returned (.int .i64 er) ∧ Drawn0 w w' := by
  have C := Aside0.mk (kern4_Plain.err k hk t0 t1 u0 u1 s lo hi b A m c d er w K h)
  have he : er = 4 ∨ er = 18 := by rcases h with ⟨_, h⟩ | ⟨_, _, h⟩ <;> omega
  clear K h hk
  rcases he with rfl | rfl
  · go_enter Tryd.func55, Tryd.ntmps55
    go_wp2_with (go_at_call 60; (with_reducible refine (C.out).mono ?_); rintro e w1 ⟨rfl, hb1⟩; have hb1 := Aside0.mk hb1)
    go_ret
    exact ⟨rfl, by repeat (first | exact hb1.out | apply Drawn0.step)⟩
  · go_enter Tryd.func55, Tryd.ntmps55
    go_wp2_with (go_at_call 60; (with_reducible refine (C.out).mono ?_); rintro e w1 ⟨rfl, hb1⟩; have hb1 := Aside0.mk hb1)
    go_ret
    exact ⟨rfl, by repeat (first | exact hb1.out | apply Drawn0.step)⟩
theorem hk_Run4.run (n k : Nat) (hk : k ≤ 20) (u : Value) (l0 rr t0 t1 : List Int) (u0 u1 s d : Int) (lo b : Nat) (w2 w : World) (H2 : Below w2.heap.size w2 w) (K : hk_K4 k t0 t1 u0 u1 s lo w2.heap.size b w2)
    (ho : Kd.R (Kd.int .u64) 23 w w2.heap.size (fun _ => True) u l0) (h : hk_run4 n k t0 t1 u0 u1 s d false l0 rr) :
    Calls Tryd.prog 55 #[.pointer (some ⟨b, 0, none⟩), u, .int .i64 d] w fun e w' => e = .returned (.int .i64 0) ∧ Kd.R (Kd.int .u64) 23 w' w2.heap.size (fun _ => True) u rr ∧ Below w2.heap.size w2 w' ∧ Kept w w' (fun j => u.ownBlock = some j) := by
  have h := hk_Run4.use n k hk u l0 rr t0 t1 u0 u1 s d lo w2.heap.size b false w2 w H2 (K.below H2) ho (fun j hj => .inr ((Kd.R_bound ho).1 j hj).2.1) h
  rw [if_neg (by decide)] at h
  exact h
theorem hk_Run4.plain (n k : Nat) (hk : k ≤ 20) (u : Value) (l0 rr t0 t1 : List Int) (u0 u1 s d : Int) (lo b : Nat) (w2 w : World) (H2 : Below w2.heap.size w2 w) (K : hk_K4 k t0 t1 u0 u1 s lo w2.heap.size b w2)
    (ho : Kd.R (Kd.int .u64) 23 w w2.heap.size (fun _ => True) u l0) (h : hk_run4 n k t0 t1 u0 u1 s d true l0 rr) :
    Calls Tryd.prog 60 #[.pointer (some ⟨b, 0, none⟩), u, .int .i64 d] w fun e w' => e = .returned (.int .i64 0) ∧ Kd.R (Kd.int .u64) 23 w' w2.heap.size (fun _ => True) u rr ∧ Below w2.heap.size w2 w' ∧ Kept w w' (fun j => u.ownBlock = some j) := by
  have h := hk_Run4.use n k hk u l0 rr t0 t1 u0 u1 s d lo w2.heap.size b true w2 w H2 (K.below H2) ho (fun j hj => .inr ((Kd.R_bound ho).1 j hj).2.1) h
  rw [if_pos rfl] at h
  exact h

/-! ### twid_Share: function 65 -/
def twid_Share.f (k : Nat) (a0 : Int) : Option (Int × Int) := if a0 < 0 then (some (0, 1)) else (if a0 > 32 then (some (0, 1)) else (if 0 ≤ (IntKind.u64.wrap (a0)) then ((gold_Inv.f k (shl .u64 1 (IntKind.u64.wrap (a0)))).bind fun bt156 => (some (bt156.1, bt156.2))) else (none)))
theorem twid_Share.mono : ∀ a0 k, LeO (twid_Share.f k a0) (twid_Share.f (k + 1) a0) := by
  intro a0 k
  unfold twid_Share.f
  repeat' first
      | (with_reducible exact gold_Inv.mono _ _)
      | (with_reducible exact LeO.refl _)
      | (with_reducible exact LeO.none _)
      | (with_reducible refine LeO.ite ?_ ?_)
      | (with_reducible refine LeO.bind ?_ (fun _ => ?_))
      | exact gold_Inv.mono _ _
      | exact LeO.none _
      | refine LeO.ite ?_ ?_
      | refine LeO.bind ?_ (fun _ => ?_)
set_option maxHeartbeats 8000000 in
set_option maxRecDepth 100000 in
theorem twid_Share.calls (k : Nat) (a0 : Int) (r1 : Int) (r2 : Int) (w : World) (h : twid_Share.f k a0 = some (r1, r2)) :
    Calls Tryd.prog 65 #[.int .i64 a0] w fun e w' => e = .returned (.tuple #[.int .u64 r1, .int .i64 r2]) ∧ Below w.heap.size w w' := by
  have HB := Aside0.mk (Below.refl w.heap.size w)
  have H : (if a0 < 0 then (some (0, 1)) else (if a0 > 32 then (some (0, 1)) else (if 0 ≤ (IntKind.u64.wrap (a0)) then ((gold_Inv.f k (shl .u64 1 (IntKind.u64.wrap (a0)))).bind fun bt156 => (some (bt156.1, bt156.2))) else (none)))) = some (r1, r2) := h
  clear h
  by_cases c2 : a0 < 0
  · rw [if_pos c2] at H
    have c2b0 : decide (a0 < 0) = true := decide_eq_true c2
    clear c2
    simp only [Option.some.injEq, Prod.mk.injEq] at H
    obtain ⟨rfl, rfl⟩ := H
    go_enter Tryd.func65, Tryd.ntmps65
    go_wp2
    go_ret2
    exact ⟨by first | rfl | (simp [errW_none, errW_some] <;> rfl) | (simp [*, errW_none, errW_some] <;> rfl), by repeat (first | (with_reducible first | exact HB.out | apply below_alloc | apply pw_below_drewN | apply below_drew1) | exact HB.out)⟩
  · rw [if_neg c2] at H
    have c2b0 : decide (a0 < 0) = false := decide_eq_false c2
    clear c2
    by_cases c3 : a0 > 32
    · rw [if_pos c3] at H
      have c3b0 : decide (32 < a0) = true := decide_eq_true c3
      clear c3
      simp only [Option.some.injEq, Prod.mk.injEq] at H
      obtain ⟨rfl, rfl⟩ := H
      go_enter Tryd.func65, Tryd.ntmps65
      go_wp2
      go_ret2
      exact ⟨by first | rfl | (simp [errW_none, errW_some] <;> rfl) | (simp [*, errW_none, errW_some] <;> rfl), by repeat (first | (with_reducible first | exact HB.out | apply below_alloc | apply pw_below_drewN | apply below_drew1) | exact HB.out)⟩
    · rw [if_neg c3] at H
      have c3b0 : decide (32 < a0) = false := decide_eq_false c3
      clear c3
      obtain ⟨ji4, hji4⟩ : ∃ j_ : Int, (IntKind.u64.wrap (a0)) = j_ := ⟨_, rfl⟩
      replace H : (if 0 ≤ (ji4) then ((gold_Inv.f k (shl .u64 1 (ji4))).bind fun bt156 => (some (bt156.1, bt156.2))) else (none)) = some (r1, r2) := by first | (rw [hji4] at H; exact H) | (simp only [hji4] at H ⊢; exact H)
      by_cases c5 : 0 ≤ (ji4)
      · rw [if_pos c5] at H
        have c5b0 := eq_true c5
        have c5b1 : decide (0 ≤ (ji4)) = true := decide_eq_true c5
        clear c5
        obtain ⟨ji6, hji6⟩ : ∃ j_ : Int, (shl .u64 1 (ji4)) = j_ := ⟨_, rfl⟩
        replace H : ((gold_Inv.f k (ji6)).bind fun bt156 => (some (bt156.1, bt156.2))) = some (r1, r2) := by first | (rw [hji6] at H; exact H) | (simp only [hji6] at H ⊢; exact H)
        have hji6_ : (IntKind.u64.wrap (1 * 2 ^ min (ji4).toNat 64)) = ji6 := hji6
        have hji6z : (ji4) ≤ 64 → (IntKind.u64.wrap (1 * 2 ^ (ji4).toNat)) = ji6 := shl_small hji6
        have hji6u : (IntKind.u64.wrap (2 ^ min (ji4).toNat 64)) = ji6 := by have h_ := hji6_; rw [Int.one_mul] at h_; exact h_
        have hji6v : (ji4) ≤ 64 → (IntKind.u64.wrap (2 ^ (ji4).toNat)) = ji6 := fun hle_ => by have h_ := hji6z hle_; rw [Int.one_mul] at h_; exact h_
        replace H := Option.bind_eq_some_iff.mp H
        obtain ⟨⟨t156, t157⟩, A70, H⟩ := H
        replace H : (some (t156, t157)) = some (r1, r2) := H
        have A7 := Aside0.mk A70
        clear A70
        simp only [Option.some.injEq, Prod.mk.injEq] at H
        obtain ⟨rfl, rfl⟩ := H
        go_enter Tryd.func65, Tryd.ntmps65
        go_wp2_with (first | ((with_reducible refine gate_callee (f := 25) rfl ?_); refine goesL_ (some 13) rfl rfl Tryd.func25 (by kernel_rfl) rfl #[.int .u64 ji6] rfl (by (try simp only [List.map_toArray, List.map_cons, List.map_nil]); first | done | (simp only [hji6]; rfl) | rfl | (simp only [List.length_drop, List.length_take]; rfl)) ?_; (with_reducible refine (gold_Inv.calls k ji6 t156 t157 _ A7.out).mono ?_); rintro e w8 ⟨rfl, hb⟩; refine ⟨_, rfl, ?_⟩; have n0_ := Aside0.mk (below_step (by repeat (first | (with_reducible first | exact HB.out | apply below_alloc | apply pw_below_drewN | apply below_drew1) | exact HB.out)) hb); clear HB; have HB := n0_; clear n0_; (try clear hb); (try clear hb2); (try clear hk); (try clear hi)))
        go_ret2
        exact ⟨by first | rfl | (simp [errW_none, errW_some] <;> rfl) | (simp only [← hji4, ← hji6]; first | rfl | (simp [errW_none, errW_some] <;> rfl)) | (simp [*, errW_none, errW_some] <;> rfl), by repeat (first | (with_reducible first | exact HB.out | apply below_alloc | apply pw_below_drewN | apply below_drew1) | exact HB.out)⟩
      · rw [if_neg c5] at H
        exact absurd H (by simp)

/-! ### root_good: function 78 -/
def root_good.f (a0 : Int) : Option (Bool) := if a0 ≥ 0 then (some (decide (a0 ≤ 32))) else (some false)
set_option maxHeartbeats 8000000 in
set_option maxRecDepth 100000 in
theorem root_good.calls (a0 : Int) (r : Bool) (w : World) (h : root_good.f a0 = some r) :
    Calls Tryd.prog 78 #[.int .i64 a0] w fun e w' => e = .returned (.bool r) ∧ Drawn0 w w' := by
  have H : (if a0 ≥ 0 then (some (decide (a0 ≤ 32))) else (some false)) = some r := h
  clear h
  by_cases c2 : a0 ≥ 0
  · rw [if_pos c2] at H
    have c2b0 : decide (0 ≤ a0) = true := decide_eq_true c2
    clear c2
    obtain rfl := Option.some.inj H
    go_enter Tryd.func78, Tryd.ntmps78
    go_wp2
    go_ret
    exact ⟨by first | rfl | (simp; done) | (simp [*]; done), by repeat (first | exact Drawn0.refl _ | apply Drawn0.step)⟩
  · rw [if_neg c2] at H
    have c2b0 : decide (0 ≤ a0) = false := decide_eq_false c2
    clear c2
    obtain rfl := Option.some.inj H
    go_enter Tryd.func78, Tryd.ntmps78
    go_wp2
    go_ret
    exact ⟨by first | rfl | (simp; done) | (simp [*]; done), by repeat (first | exact Drawn0.refl _ | apply Drawn0.step)⟩

/-! ### root_root: function 79 -/
def root_root.f (k : Nat) (a0 : Int) : Option (Int) := if 0 ≤ (IntKind.u64.wrap (a0)) then ((gold_Pow.f k 7 (shr .u64 18446744069414584320 (IntKind.u64.wrap (a0)))).bind fun t158 => (some t158)) else (none)
theorem root_root.mono : ∀ a0 k, LeO (root_root.f k a0) (root_root.f (k + 1) a0) := by
  intro a0 k
  unfold root_root.f
  repeat' first
      | (with_reducible exact gold_Pow.mono _ _ _)
      | (with_reducible exact LeO.refl _)
      | (with_reducible exact LeO.none _)
      | (with_reducible refine LeO.ite ?_ ?_)
      | (with_reducible refine LeO.bind ?_ (fun _ => ?_))
      | exact gold_Pow.mono _ _ _
      | exact LeO.none _
      | refine LeO.ite ?_ ?_
      | refine LeO.bind ?_ (fun _ => ?_)
set_option maxHeartbeats 8000000 in
set_option maxRecDepth 100000 in
theorem root_root.calls (k : Nat) (a0 : Int) (r : Int) (w : World) (h : root_root.f k a0 = some r) :
    Calls Tryd.prog 79 #[.int .i64 a0] w fun e w' => e = .returned (.int .u64 r) ∧ Below w.heap.size w w' := by
  have HB := Aside0.mk (Below.refl w.heap.size w)
  have H : (if 0 ≤ (IntKind.u64.wrap (a0)) then ((gold_Pow.f k 7 (shr .u64 18446744069414584320 (IntKind.u64.wrap (a0)))).bind fun t158 => (some t158)) else (none)) = some r := h
  clear h
  obtain ⟨ji2, hji2⟩ : ∃ j_ : Int, (IntKind.u64.wrap (a0)) = j_ := ⟨_, rfl⟩
  replace H : (if 0 ≤ (ji2) then ((gold_Pow.f k 7 (shr .u64 18446744069414584320 (ji2))).bind fun t158 => (some t158)) else (none)) = some r := by first | (rw [hji2] at H; exact H) | (simp only [hji2] at H ⊢; exact H)
  by_cases c3 : 0 ≤ (ji2)
  · rw [if_pos c3] at H
    have c3b0 := eq_true c3
    have c3b1 : decide (0 ≤ (ji2)) = true := decide_eq_true c3
    clear c3
    obtain ⟨ji4, hji4⟩ : ∃ j_ : Int, (shr .u64 18446744069414584320 (ji2)) = j_ := ⟨_, rfl⟩
    replace H : ((gold_Pow.f k 7 (ji4)).bind fun t158 => (some t158)) = some r := by first | (rw [hji4] at H; exact H) | (simp only [hji4] at H ⊢; exact H)
    have hji4_ : (18446744069414584320 / 2 ^ min (ji2).toNat 64) = ji4 := hji4
    have hji4z : (ji2) ≤ 64 → (18446744069414584320 / 2 ^ (ji2).toNat) = ji4 := shr_small hji4
    replace H := Option.bind_eq_some_iff.mp H
    obtain ⟨t158, A50, H⟩ := H
    replace H : (some t158) = some r := H
    have A5 := Aside0.mk A50
    clear A50
    obtain rfl := Option.some.inj H
    go_enter Tryd.func79, Tryd.ntmps79
    go_wp2_with (first | ((with_reducible refine gate_callee (f := 30) rfl ?_); refine goesL_ (some 6) rfl rfl Tryd.func30 (by kernel_rfl) rfl #[.int .u64 7, .int .u64 ji4] rfl (by (try simp only [List.map_toArray, List.map_cons, List.map_nil]); first | done | (simp only [hji4]; rfl) | rfl | (simp only [List.length_drop, List.length_take]; rfl)) ?_; (with_reducible refine (gold_Pow.calls k 7 ji4 t158 _ A5.out).mono ?_); rintro e w6 ⟨rfl, hb⟩; refine ⟨_, rfl, ?_⟩; have n0_ := Aside0.mk (below_step (by repeat (first | (with_reducible first | exact HB.out | apply below_alloc | apply pw_below_drewN | apply below_drew1) | exact HB.out)) hb); clear HB; have HB := n0_; clear n0_; (try clear hb); (try clear hb2); (try clear hk); (try clear hi)))
    go_ret
    exact ⟨by first | rfl | (simp [errW_none, errW_some] <;> rfl) | (simp only [← hji2, ← hji4]; first | rfl | (simp [errW_none, errW_some] <;> rfl)) | (simp [*, errW_none, errW_some] <;> rfl), by repeat (first | (with_reducible first | exact HB.out | apply below_alloc | apply pw_below_drewN | apply below_drew1) | exact HB.out)⟩
  · rw [if_neg c3] at H
    exact absurd H (by simp)

/-! ### root_Root: function 76 -/
def root_Root.f (k : Nat) (a0 : Int) : Option (Int × Int) := (root_good.f a0).bind fun t159 => (if t159 = true then ((root_root.f k a0).bind fun t160 => (some (t160, 0))) else (some (0, 1)))
theorem root_Root.mono : ∀ a0 k, LeO (root_Root.f k a0) (root_Root.f (k + 1) a0) := by
  intro a0 k
  unfold root_Root.f
  repeat' first
      | (with_reducible exact root_root.mono _ _)
      | (with_reducible exact LeO.refl _)
      | (with_reducible exact LeO.none _)
      | (with_reducible refine LeO.ite ?_ ?_)
      | (with_reducible refine LeO.bind ?_ (fun _ => ?_))
      | exact root_root.mono _ _
      | exact LeO.none _
      | refine LeO.ite ?_ ?_
      | refine LeO.bind ?_ (fun _ => ?_)
set_option maxHeartbeats 8000000 in
set_option maxRecDepth 100000 in
theorem root_Root.calls (k : Nat) (a0 : Int) (r1 : Int) (r2 : Int) (w : World) (h : root_Root.f k a0 = some (r1, r2)) :
    Calls Tryd.prog 76 #[.int .i64 a0] w fun e w' => e = .returned (.tuple #[.int .u64 r1, .int .i64 r2]) ∧ Below w.heap.size w w' := by
  have HB := Aside0.mk (Below.refl w.heap.size w)
  have H : ((root_good.f a0).bind fun t159 => (if t159 = true then ((root_root.f k a0).bind fun t160 => (some (t160, 0))) else (some (0, 1)))) = some (r1, r2) := h
  clear h
  replace H := Option.bind_eq_some_iff.mp H
  obtain ⟨t159, A20, H⟩ := H
  replace H : (if t159 = true then ((root_root.f k a0).bind fun t160 => (some (t160, 0))) else (some (0, 1))) = some (r1, r2) := H
  have A2 := Aside0.mk A20
  clear A20
  by_cases c3 : t159 = true
  · subst c3
    have H1 : ((root_root.f k a0).bind fun t160 => (some (t160, 0))) = some (r1, r2) := by rw [if_pos rfl] at H; exact H
    clear H
    have H := H1
    clear H1
    replace H := Option.bind_eq_some_iff.mp H
    obtain ⟨t160, A40, H⟩ := H
    replace H : (some (t160, 0)) = some (r1, r2) := H
    have A4 := Aside0.mk A40
    clear A40
    simp only [Option.some.injEq, Prod.mk.injEq] at H
    obtain ⟨rfl, rfl⟩ := H
    go_enter Tryd.func76, Tryd.ntmps76
    go_wp2_with (first | ((with_reducible refine gate_callee (f := 78) rfl ?_); refine goesL_ (some 5) rfl rfl Tryd.func78 (by kernel_rfl) rfl #[.int .i64 a0] rfl (by (try simp only [List.map_toArray, List.map_cons, List.map_nil]); first | done | rfl | (simp only [List.length_drop, List.length_take]; rfl)) ?_; (with_reducible refine (root_good.calls a0 true _ A2.out).mono ?_); rintro e w' ⟨rfl, ⟨nd, rfl⟩⟩; refine ⟨_, rfl, ?_⟩) | ((with_reducible refine gate_callee (f := 79) rfl ?_); refine goesL_ (some 8) rfl rfl Tryd.func79 (by kernel_rfl) rfl #[.int .i64 a0] rfl (by (try simp only [List.map_toArray, List.map_cons, List.map_nil]); first | done | rfl | (simp only [List.length_drop, List.length_take]; rfl)) ?_; (with_reducible refine (root_root.calls k a0 t160 _ A4.out).mono ?_); rintro e w5 ⟨rfl, hb⟩; refine ⟨_, rfl, ?_⟩; have n0_ := Aside0.mk (below_step (by repeat (first | (with_reducible first | exact HB.out | apply below_alloc | apply pw_below_drewN | apply below_drew1) | exact HB.out)) hb); clear HB; have HB := n0_; clear n0_; (try clear hb); (try clear hb2); (try clear hk); (try clear hi)))
    go_ret2
    exact ⟨by first | rfl | (simp [errW_none, errW_some] <;> rfl) | (simp [*, errW_none, errW_some] <;> rfl), by repeat (first | (with_reducible first | exact HB.out | apply below_alloc | apply pw_below_drewN | apply below_drew1) | exact HB.out)⟩
  · replace c3 := Bool.eq_false_iff.mpr c3
    subst c3
    have H1 : (some (0, 1)) = some (r1, r2) := by rw [if_neg (show ¬ (false = true) by decide)] at H; exact H
    clear H
    have H := H1
    clear H1
    simp only [Option.some.injEq, Prod.mk.injEq] at H
    obtain ⟨rfl, rfl⟩ := H
    go_enter Tryd.func76, Tryd.ntmps76
    go_wp2_with (first | ((with_reducible refine gate_callee (f := 78) rfl ?_); refine goesL_ (some 5) rfl rfl Tryd.func78 (by kernel_rfl) rfl #[.int .i64 a0] rfl (by (try simp only [List.map_toArray, List.map_cons, List.map_nil]); first | done | rfl | (simp only [List.length_drop, List.length_take]; rfl)) ?_; (with_reducible refine (root_good.calls a0 false _ A2.out).mono ?_); rintro e w' ⟨rfl, ⟨nd, rfl⟩⟩; refine ⟨_, rfl, ?_⟩))
    go_ret2
    exact ⟨by first | rfl | (simp [errW_none, errW_some] <;> rfl) | (simp [*, errW_none, errW_some] <;> rfl), by repeat (first | (with_reducible first | exact HB.out | apply below_alloc | apply pw_below_drewN | apply below_drew1) | exact HB.out)⟩

/-! ### root_Back: function 77 -/
def root_Back.f (k : Nat) (a0 : Int) : Option (Int × Int) := (root_good.f a0).bind fun t161 => (if t161 = true then ((root_root.f k a0).bind fun t162 => ((gold_Inv.f k t162).bind fun bt163 => (some (bt163.1, bt163.2)))) else (some (0, 1)))
theorem root_Back.mono : ∀ a0 k, LeO (root_Back.f k a0) (root_Back.f (k + 1) a0) := by
  intro a0 k
  unfold root_Back.f
  repeat' first
      | (with_reducible exact gold_Inv.mono _ _)
      | (with_reducible exact root_root.mono _ _)
      | (with_reducible exact LeO.refl _)
      | (with_reducible exact LeO.none _)
      | (with_reducible refine LeO.ite ?_ ?_)
      | (with_reducible refine LeO.bind ?_ (fun _ => ?_))
      | exact gold_Inv.mono _ _
      | exact root_root.mono _ _
      | exact LeO.none _
      | refine LeO.ite ?_ ?_
      | refine LeO.bind ?_ (fun _ => ?_)
set_option maxHeartbeats 8000000 in
set_option maxRecDepth 100000 in
theorem root_Back.calls (k : Nat) (a0 : Int) (r1 : Int) (r2 : Int) (w : World) (h : root_Back.f k a0 = some (r1, r2)) :
    Calls Tryd.prog 77 #[.int .i64 a0] w fun e w' => e = .returned (.tuple #[.int .u64 r1, .int .i64 r2]) ∧ Below w.heap.size w w' := by
  have HB := Aside0.mk (Below.refl w.heap.size w)
  have H : ((root_good.f a0).bind fun t161 => (if t161 = true then ((root_root.f k a0).bind fun t162 => ((gold_Inv.f k t162).bind fun bt163 => (some (bt163.1, bt163.2)))) else (some (0, 1)))) = some (r1, r2) := h
  clear h
  replace H := Option.bind_eq_some_iff.mp H
  obtain ⟨t161, A20, H⟩ := H
  replace H : (if t161 = true then ((root_root.f k a0).bind fun t162 => ((gold_Inv.f k t162).bind fun bt163 => (some (bt163.1, bt163.2)))) else (some (0, 1))) = some (r1, r2) := H
  have A2 := Aside0.mk A20
  clear A20
  by_cases c3 : t161 = true
  · subst c3
    have H1 : ((root_root.f k a0).bind fun t162 => ((gold_Inv.f k t162).bind fun bt163 => (some (bt163.1, bt163.2)))) = some (r1, r2) := by rw [if_pos rfl] at H; exact H
    clear H
    have H := H1
    clear H1
    replace H := Option.bind_eq_some_iff.mp H
    obtain ⟨t162, A40, H⟩ := H
    replace H : ((gold_Inv.f k t162).bind fun bt163 => (some (bt163.1, bt163.2))) = some (r1, r2) := H
    have A4 := Aside0.mk A40
    clear A40
    replace H := Option.bind_eq_some_iff.mp H
    obtain ⟨⟨t163, t164⟩, A50, H⟩ := H
    replace H : (some (t163, t164)) = some (r1, r2) := H
    have A5 := Aside0.mk A50
    clear A50
    simp only [Option.some.injEq, Prod.mk.injEq] at H
    obtain ⟨rfl, rfl⟩ := H
    go_enter Tryd.func77, Tryd.ntmps77
    go_wp2_with (first | ((with_reducible refine gate_callee (f := 78) rfl ?_); refine goesL_ (some 5) rfl rfl Tryd.func78 (by kernel_rfl) rfl #[.int .i64 a0] rfl (by (try simp only [List.map_toArray, List.map_cons, List.map_nil]); first | done | rfl | (simp only [List.length_drop, List.length_take]; rfl)) ?_; (with_reducible refine (root_good.calls a0 true _ A2.out).mono ?_); rintro e w' ⟨rfl, ⟨nd, rfl⟩⟩; refine ⟨_, rfl, ?_⟩) | ((with_reducible refine gate_callee (f := 79) rfl ?_); refine goesL_ (some 8) rfl rfl Tryd.func79 (by kernel_rfl) rfl #[.int .i64 a0] rfl (by (try simp only [List.map_toArray, List.map_cons, List.map_nil]); first | done | rfl | (simp only [List.length_drop, List.length_take]; rfl)) ?_; (with_reducible refine (root_root.calls k a0 t162 _ A4.out).mono ?_); rintro e w6 ⟨rfl, hb⟩; refine ⟨_, rfl, ?_⟩; have n0_ := Aside0.mk (below_step (by repeat (first | (with_reducible first | exact HB.out | apply below_alloc | apply pw_below_drewN | apply below_drew1) | exact HB.out)) hb); clear HB; have HB := n0_; clear n0_; (try clear hb); (try clear hb2); (try clear hk); (try clear hi)) | ((with_reducible refine gate_callee (f := 25) rfl ?_); refine goesL_ (some 9) rfl rfl Tryd.func25 (by kernel_rfl) rfl #[.int .u64 t162] rfl (by (try simp only [List.map_toArray, List.map_cons, List.map_nil]); first | done | rfl | (simp only [List.length_drop, List.length_take]; rfl)) ?_; (with_reducible refine (gold_Inv.calls k t162 t163 t164 _ A5.out).mono ?_); rintro e w7 ⟨rfl, hb⟩; refine ⟨_, rfl, ?_⟩; have n0_ := Aside0.mk (below_step (by repeat (first | (with_reducible first | exact HB.out | apply below_alloc | apply pw_below_drewN | apply below_drew1) | exact HB.out)) hb); clear HB; have HB := n0_; clear n0_; (try clear hb); (try clear hb2); (try clear hk); (try clear hi)))
    go_ret2
    exact ⟨by first | rfl | (simp [errW_none, errW_some] <;> rfl) | (simp [*, errW_none, errW_some] <;> rfl), by repeat (first | (with_reducible first | exact HB.out | apply below_alloc | apply pw_below_drewN | apply below_drew1) | exact HB.out)⟩
  · replace c3 := Bool.eq_false_iff.mpr c3
    subst c3
    have H1 : (some (0, 1)) = some (r1, r2) := by rw [if_neg (show ¬ (false = true) by decide)] at H; exact H
    clear H
    have H := H1
    clear H1
    simp only [Option.some.injEq, Prod.mk.injEq] at H
    obtain ⟨rfl, rfl⟩ := H
    go_enter Tryd.func77, Tryd.ntmps77
    go_wp2_with (first | ((with_reducible refine gate_callee (f := 78) rfl ?_); refine goesL_ (some 5) rfl rfl Tryd.func78 (by kernel_rfl) rfl #[.int .i64 a0] rfl (by (try simp only [List.map_toArray, List.map_cons, List.map_nil]); first | done | rfl | (simp only [List.length_drop, List.length_take]; rfl)) ?_; (with_reducible refine (root_good.calls a0 false _ A2.out).mono ?_); rintro e w' ⟨rfl, ⟨nd, rfl⟩⟩; refine ⟨_, rfl, ?_⟩))
    go_ret2
    exact ⟨by first | rfl | (simp [errW_none, errW_some] <;> rfl) | (simp [*, errW_none, errW_some] <;> rfl), by repeat (first | (with_reducible first | exact HB.out | apply below_alloc | apply pw_below_drewN | apply below_drew1) | exact HB.out)⟩

/-! ### twid_Root: function 71 -/
def twid_Root.j0 : Nat → Int → Int → Bool → Option (Int × Int)
  | 0, _, _, _ => none
  | k + 1, x0, x1, x6 => if x6 = true then (some (0, 1)) else (if x1 = 0 then ((root_Root.f k x0).bind fun bt165 => (some (bt165.1, bt165.2))) else (if x1 = 1 then ((root_Back.f k x0).bind fun bt167 => (some (bt167.1, bt167.2))) else (some (0, 18))))
def twid_Root.f (k : Nat) (a0 : Int) (a1 : Int) : Option (Int × Int) := if a0 < 0 then (twid_Root.j0 k a0 a1 true) else (twid_Root.j0 k a0 a1 (decide (a0 > 32)))
theorem twid_Root.mono_l : ∀ k, (∀ y0 y1 y2, LeO (twid_Root.j0 k y0 y1 y2) (twid_Root.j0 (k + 1) y0 y1 y2))
  | 0 => fun _ _ _ r h => by simp [twid_Root.j0] at h
  | k + 1 => by
    have ih0 := twid_Root.mono_l k
    · intro y0 y1 y2
      unfold twid_Root.j0
      repeat' first
      | (with_reducible exact ih0 _ _ _)
      | (with_reducible exact root_Back.mono _ _)
      | (with_reducible exact root_Root.mono _ _)
      | (with_reducible exact LeO.refl _)
      | (with_reducible exact LeO.none _)
      | (with_reducible refine LeO.ite ?_ ?_)
      | (with_reducible refine LeO.bind ?_ (fun _ => ?_))
      | exact ih0 _ _ _
      | exact root_Back.mono _ _
      | exact root_Root.mono _ _
      | exact LeO.none _
      | refine LeO.ite ?_ ?_
      | refine LeO.bind ?_ (fun _ => ?_)
theorem twid_Root.mono : ∀ a0 a1 k, LeO (twid_Root.f k a0 a1) (twid_Root.f (k + 1) a0 a1) := by
  intro a0 a1 k
  have ih0 := twid_Root.mono_l k
  unfold twid_Root.f
  repeat' first
      | (with_reducible exact ih0 _ _ _)
      | (with_reducible exact root_Back.mono _ _)
      | (with_reducible exact root_Root.mono _ _)
      | (with_reducible exact LeO.refl _)
      | (with_reducible exact LeO.none _)
      | (with_reducible refine LeO.ite ?_ ?_)
      | (with_reducible refine LeO.bind ?_ (fun _ => ?_))
      | exact ih0 _ _ _
      | exact root_Back.mono _ _
      | exact root_Root.mono _ _
      | exact LeO.none _
      | refine LeO.ite ?_ ?_
      | refine LeO.bind ?_ (fun _ => ?_)
set_option maxHeartbeats 8000000 in
set_option maxRecDepth 100000 in
theorem twid_Root.calls (k : Nat) (a0 : Int) (a1 : Int) (r1 : Int) (r2 : Int) (w : World) (h : twid_Root.f k a0 a1 = some (r1, r2)) :
    Calls Tryd.prog 71 #[.int .i64 a0, .int .i64 a1] w fun e w' => e = .returned (.tuple #[.int .u64 r1, .int .i64 r2]) ∧ Below w.heap.size w w' := by
  have HB := Aside0.mk (Below.refl w.heap.size w)
  have H : (if a0 < 0 then (twid_Root.j0 k a0 a1 true) else (twid_Root.j0 k a0 a1 (decide (a0 > 32)))) = some (r1, r2) := h
  clear h
  have HC3 := Aside0.mk H
  clear H
  go_enter Tryd.func71, Tryd.ntmps71
  go_upto_region 1 with (fail)
  go_cut [6] (fun v6 wc => ∃ (kq : Nat) (x6_2 : Bool), v6 = .bool x6_2 ∧ Aside0 (twid_Root.j0 kq a0 a1 x6_2 = some (r1, r2)) ∧ Aside0 (kq ≤ k) ∧ Aside0 (Below w.heap.size w wc))
  case first =>
    have H := HC3.out
    clear HC3
    by_cases c4 : a0 < 0
    · rw [if_pos c4] at H
      have c4b0 : decide (a0 < 0) = true := decide_eq_true c4
      clear c4
      (first | rw [c4b0] | (simp only [i64_w, i32_w]; rw [c4b0]) | skip)
      have H' := Aside0.mk H
      clear H
      go_wp2
      go_meet
      case rel => exact ⟨_, (true), (by first | rfl | (simp; done) | (simp [*]; done)), H', ⟨by first | omega | exact Nat.le_refl _⟩, ⟨by repeat (first | (with_reducible first | exact HB.out | apply below_alloc | apply pw_below_drewN | apply below_drew1) | exact HB.out)⟩⟩
    · rw [if_neg c4] at H
      have c4b0 : decide (a0 < 0) = false := decide_eq_false c4
      clear c4
      (first | rw [c4b0] | (simp only [i64_w, i32_w]; rw [c4b0]) | skip)
      have H' := Aside0.mk H
      clear H
      go_wp2
      go_meet
      case rel => exact ⟨_, (decide (a0 > 32)), (by first | rfl | (simp; done) | (simp [*]; done)), H', ⟨by first | omega | exact Nat.le_refl _⟩, ⟨by repeat (first | (with_reducible first | exact HB.out | apply below_alloc | apply pw_below_drewN | apply below_drew1) | exact HB.out)⟩⟩
  case rest =>
    clear HC3
    try clear p2
    try clear c4
    try clear c4b0
    obtain ⟨kq, x6_2, rfl, HA, HJ2, HB⟩ := hcut
    cases kq with
    | zero => exact absurd HA.out (by simp [twid_Root.j0])
    | succ kj2 =>
      have H := HA.out
      clear HA
      simp only [twid_Root.j0] at H
      by_cases c5 : x6_2 = true
      · subst c5
        have H1 : (some (0, 1)) = some (r1, r2) := by rw [if_pos rfl] at H; exact H
        clear H
        have H := H1
        clear H1
        simp only [Option.some.injEq, Prod.mk.injEq] at H
        obtain ⟨rfl, rfl⟩ := H
        go_wp2
        go_ret2
        exact ⟨by first | rfl | (simp [errW_none, errW_some] <;> rfl) | (simp [*, errW_none, errW_some] <;> rfl), by repeat (first | (with_reducible first | exact HB.out | apply below_alloc | apply pw_below_drewN | apply below_drew1) | exact HB.out)⟩
      · replace c5 := Bool.eq_false_iff.mpr c5
        subst c5
        have H1 : (if a1 = 0 then ((root_Root.f kj2 a0).bind fun bt165 => (some (bt165.1, bt165.2))) else (if a1 = 1 then ((root_Back.f kj2 a0).bind fun bt167 => (some (bt167.1, bt167.2))) else (some (0, 18)))) = some (r1, r2) := by rw [if_neg (show ¬ (false = true) by decide)] at H; exact H
        clear H
        have H := H1
        clear H1
        by_cases c6 : a1 = 0
        · rw [if_pos c6] at H
          have c6b0 : (a1 == 0) = true := beq_iff_eq.mpr c6
          have c6b1 : (a1 != 0) = false := bne_eq_false_iff_eq.mpr c6
          clear c6
          replace H := Option.bind_eq_some_iff.mp H
          obtain ⟨⟨t165, t166⟩, A70, H⟩ := H
          replace H : (some (t165, t166)) = some (r1, r2) := H
          have A7 := Aside0.mk A70
          clear A70
          simp only [Option.some.injEq, Prod.mk.injEq] at H
          obtain ⟨rfl, rfl⟩ := H
          go_wp2_with (first | ((with_reducible refine gate_callee (f := 76) rfl ?_); refine goesL_ (some 17) rfl rfl Tryd.func76 (by kernel_rfl) rfl #[.int .i64 a0] rfl (by (try simp only [List.map_toArray, List.map_cons, List.map_nil]); first | done | rfl | (simp only [List.length_drop, List.length_take]; rfl)) ?_; (with_reducible refine (root_Root.calls kj2 a0 t165 t166 _ A7.out).mono ?_); rintro e w8 ⟨rfl, hb⟩; refine ⟨_, rfl, ?_⟩; have n0_ := Aside0.mk (below_step (by repeat (first | (with_reducible first | exact HB.out | apply below_alloc | apply pw_below_drewN | apply below_drew1) | exact HB.out)) hb); clear HB; have HB := n0_; clear n0_; (try clear hb); (try clear hb2); (try clear hk); (try clear hi)))
          go_ret2
          exact ⟨by first | rfl | (simp [errW_none, errW_some] <;> rfl) | (simp [*, errW_none, errW_some] <;> rfl), by repeat (first | (with_reducible first | exact HB.out | apply below_alloc | apply pw_below_drewN | apply below_drew1) | exact HB.out)⟩
        · rw [if_neg c6] at H
          have c6b0 : (a1 == 0) = false := beq_eq_false_iff_ne.mpr c6
          have c6b1 : (a1 != 0) = true := bne_iff_ne.mpr c6
          by_cases c9 : a1 = 1
          · rw [if_pos c9] at H
            have c9b0 : (a1 == 1) = true := beq_iff_eq.mpr c9
            have c9b1 : (a1 != 1) = false := bne_eq_false_iff_eq.mpr c9
            clear c9
            replace H := Option.bind_eq_some_iff.mp H
            obtain ⟨⟨t167, t168⟩, A100, H⟩ := H
            replace H : (some (t167, t168)) = some (r1, r2) := H
            have A10 := Aside0.mk A100
            clear A100
            simp only [Option.some.injEq, Prod.mk.injEq] at H
            obtain ⟨rfl, rfl⟩ := H
            go_wp2_with (first | ((with_reducible refine gate_callee (f := 77) rfl ?_); refine goesL_ (some 24) rfl rfl Tryd.func77 (by kernel_rfl) rfl #[.int .i64 a0] rfl (by (try simp only [List.map_toArray, List.map_cons, List.map_nil]); first | done | rfl | (simp only [List.length_drop, List.length_take]; rfl)) ?_; (with_reducible refine (root_Back.calls kj2 a0 t167 t168 _ A10.out).mono ?_); rintro e w11 ⟨rfl, hb⟩; refine ⟨_, rfl, ?_⟩; have n0_ := Aside0.mk (below_step (by repeat (first | (with_reducible first | exact HB.out | apply below_alloc | apply pw_below_drewN | apply below_drew1) | exact HB.out)) hb); clear HB; have HB := n0_; clear n0_; (try clear hb); (try clear hb2); (try clear hk); (try clear hi)))
            go_ret2
            exact ⟨by first | rfl | (simp [errW_none, errW_some] <;> rfl) | (simp [*, errW_none, errW_some] <;> rfl), by repeat (first | (with_reducible first | exact HB.out | apply below_alloc | apply pw_below_drewN | apply below_drew1) | exact HB.out)⟩
          · rw [if_neg c9] at H
            have c9b0 : (a1 == 1) = false := beq_eq_false_iff_ne.mpr c9
            have c9b1 : (a1 != 1) = true := bne_iff_ne.mpr c9
            simp only [Option.some.injEq, Prod.mk.injEq] at H
            obtain ⟨rfl, rfl⟩ := H
            go_wp2
            go_ret2
            exact ⟨by first | rfl | (simp [errW_none, errW_some] <;> rfl) | (simp [*, errW_none, errW_some] <;> rfl), by repeat (first | (with_reducible first | exact HB.out | apply below_alloc | apply pw_below_drewN | apply below_drew1) | exact HB.out)⟩

/-! ### root_Powers: function 75 -/
mutual
def root_Powers.j0 : Nat → Int → Int → Bool → Option (List Int × Int)
  | 0, _, _, _ => none
  | k + 1, x0, x1, x14 => if x14 = true then (some (([] : List Int), 1)) else (if 0 ≤ x1 then (if (x1 : Int).toNat ≤ 35184372088832 then ((some (List.replicate (x1 : Int).toNat 0 : List Int)).bind fun y169 => (root_Powers.l0 k x0 y169 1 (y169.length : Int) 0)) else (none)) else (none))
def root_Powers.l0 : Nat → Int → List Int → Int → Int → Int → Option (List Int × Int)
  | 0, _, _, _, _, _ => none
  | k + 1, x0, x6, x7, x18, x19 => if x19 < x18 then (if 0 ≤ x19 then (if x19 < (x6.length : Int) then ((gold_Mul.f x7 x0).bind fun t173 => (root_Powers.l0 k x0 (x6.set (x19 : Int).toNat x7) t173 x18 (wrap64 (x19 + 1)))) else (none)) else (none)) else (some (x6, 0))
end
def root_Powers.f (k : Nat) (a0 : Int) (a1 : Int) : Option (List Int × Int) := if a1 < 0 then (root_Powers.j0 k a0 a1 true) else (root_Powers.j0 k a0 a1 (decide (a1 > 1048576)))
theorem root_Powers.mono_l : ∀ k, (∀ y0 y1 y2, LeO (root_Powers.j0 k y0 y1 y2) (root_Powers.j0 (k + 1) y0 y1 y2)) ∧ (∀ y0 y1 y2 y3 y4, LeO (root_Powers.l0 k y0 y1 y2 y3 y4) (root_Powers.l0 (k + 1) y0 y1 y2 y3 y4))
  | 0 => ⟨fun _ _ _ r h => by simp [root_Powers.j0] at h, fun _ _ _ _ _ r h => by simp [root_Powers.l0] at h⟩
  | k + 1 => by
    obtain ⟨ih0, ih1⟩ := root_Powers.mono_l k
    refine ⟨?_, ?_⟩
    · intro y0 y1 y2
      unfold root_Powers.j0
      repeat' first
      | (with_reducible exact ih0 _ _ _)
      | (with_reducible exact ih1 _ _ _ _ _)
      | (with_reducible exact LeO.refl _)
      | (with_reducible exact LeO.none _)
      | (with_reducible refine LeO.ite ?_ ?_)
      | (with_reducible refine LeO.bind ?_ (fun _ => ?_))
      | exact ih0 _ _ _
      | exact ih1 _ _ _ _ _
      | exact LeO.none _
      | refine LeO.ite ?_ ?_
      | refine LeO.bind ?_ (fun _ => ?_)
    · intro y0 y1 y2 y3 y4
      unfold root_Powers.l0
      repeat' first
      | (with_reducible exact ih0 _ _ _)
      | (with_reducible exact ih1 _ _ _ _ _)
      | (with_reducible exact LeO.refl _)
      | (with_reducible exact LeO.none _)
      | (with_reducible refine LeO.ite ?_ ?_)
      | (with_reducible refine LeO.bind ?_ (fun _ => ?_))
      | exact ih0 _ _ _
      | exact ih1 _ _ _ _ _
      | exact LeO.none _
      | refine LeO.ite ?_ ?_
      | refine LeO.bind ?_ (fun _ => ?_)
theorem root_Powers.mono : ∀ a0 a1 k, LeO (root_Powers.f k a0 a1) (root_Powers.f (k + 1) a0 a1) := by
  intro a0 a1 k
  obtain ⟨ih0, ih1⟩ := root_Powers.mono_l k
  unfold root_Powers.f
  repeat' first
      | (with_reducible exact ih0 _ _ _)
      | (with_reducible exact ih1 _ _ _ _ _)
      | (with_reducible exact LeO.refl _)
      | (with_reducible exact LeO.none _)
      | (with_reducible refine LeO.ite ?_ ?_)
      | (with_reducible refine LeO.bind ?_ (fun _ => ?_))
      | exact ih0 _ _ _
      | exact ih1 _ _ _ _ _
      | exact LeO.none _
      | refine LeO.ite ?_ ?_
      | refine LeO.bind ?_ (fun _ => ?_)
set_option maxHeartbeats 8000000 in
set_option maxRecDepth 100000 in
theorem root_Powers.calls (k : Nat) (a0 : Int) (a1 : Int) (r1 : List Int) (r2 : Int) (w : World) (h : root_Powers.f k a0 a1 = some (r1, r2)) :
    Calls Tryd.prog 75 #[.int .u64 a0, .int .i64 a1] w fun e w' => ∃ v0_ : Value, e = .returned (.tuple #[v0_, .int .i64 r2]) ∧ Kd.R (Kd.int .u64) 23 w' w.heap.size (fun _ => True) v0_ r1 ∧ Below w.heap.size w w' := by
  have HB := Aside0.mk (Below.refl w.heap.size w)
  have H : (if a1 < 0 then (root_Powers.j0 k a0 a1 true) else (root_Powers.j0 k a0 a1 (decide (a1 > 1048576)))) = some (r1, r2) := h
  clear h
  have HC3 := Aside0.mk H
  clear H
  go_enter Tryd.func75, Tryd.ntmps75
  go_upto_region 1 with (fail)
  go_cut [14] (fun v14 wc => ∃ (kq : Nat) (x14_2 : Bool), v14 = .bool x14_2 ∧ Aside0 (root_Powers.j0 kq a0 a1 x14_2 = some (r1, r2)) ∧ Aside0 (kq ≤ k) ∧ Aside0 (Below w.heap.size w wc))
  case first =>
    have H := HC3.out
    clear HC3
    by_cases c4 : a1 < 0
    · rw [if_pos c4] at H
      have c4b0 : decide (a1 < 0) = true := decide_eq_true c4
      clear c4
      (first | rw [c4b0] | (simp only [i64_w, i32_w]; rw [c4b0]) | skip)
      have H' := Aside0.mk H
      clear H
      go_wp2
      go_meet
      case rel => exact ⟨_, (true), (by first | rfl | (simp; done) | (simp [*]; done)), H', ⟨by first | omega | exact Nat.le_refl _⟩, ⟨by repeat (first | (with_reducible first | exact HB.out | apply below_alloc | apply pw_below_drewN | apply below_drew1) | exact HB.out)⟩⟩
    · rw [if_neg c4] at H
      have c4b0 : decide (a1 < 0) = false := decide_eq_false c4
      clear c4
      (first | rw [c4b0] | (simp only [i64_w, i32_w]; rw [c4b0]) | skip)
      have H' := Aside0.mk H
      clear H
      go_wp2
      go_meet
      case rel => exact ⟨_, (decide (a1 > 1048576)), (by first | rfl | (simp; done) | (simp [*]; done)), H', ⟨by first | omega | exact Nat.le_refl _⟩, ⟨by repeat (first | (with_reducible first | exact HB.out | apply below_alloc | apply pw_below_drewN | apply below_drew1) | exact HB.out)⟩⟩
  case rest =>
    clear HC3
    try clear p2
    try clear c4
    try clear c4b0
    obtain ⟨kq, x14_2, rfl, HA, HJ2, HB⟩ := hcut
    cases kq with
    | zero => exact absurd HA.out (by simp [root_Powers.j0])
    | succ kj2 =>
      have H := HA.out
      clear HA
      simp only [root_Powers.j0] at H
      by_cases c5 : x14_2 = true
      · subst c5
        have H1 : (some (([] : List Int), 1)) = some (r1, r2) := by rw [if_pos rfl] at H; exact H
        clear H
        have H := H1
        clear H1
        simp only [Option.some.injEq, Prod.mk.injEq] at H
        obtain ⟨rfl, rfl⟩ := H
        go_wp2
        go_ret2
        exact ⟨_, by first | rfl | (simp [errW_none, errW_some] <;> rfl) | (simp [*, errW_none, errW_some] <;> rfl), by first | exact Kd.R_nil _ _ _ _ _ | exact Kd.N_nil _ _ _ _ _ | exact Kd.V_nil _ _ _ _ _ | exact Kd.Q_nil _ _ _ _ _ | exact Kd.S_nil _ _ _ _ _, by repeat (first | (with_reducible first | exact HB.out | apply below_alloc | apply pw_below_drewN | apply below_drew1) | exact HB.out)⟩
      · replace c5 := Bool.eq_false_iff.mpr c5
        subst c5
        have H1 : (if 0 ≤ a1 then (if (a1 : Int).toNat ≤ 35184372088832 then ((some (List.replicate (a1 : Int).toNat 0 : List Int)).bind fun y169 => (root_Powers.l0 kj2 a0 y169 1 (y169.length : Int) 0)) else (none)) else (none)) = some (r1, r2) := by rw [if_neg (show ¬ (false = true) by decide)] at H; exact H
        clear H
        have H := H1
        clear H1
        by_cases c6 : 0 ≤ a1
        · rw [if_pos c6] at H
          have c6b0 := eq_true c6
          have c6b1 : decide (0 ≤ a1) = true := decide_eq_true c6
          clear c6
          by_cases c7 : (a1 : Int).toNat ≤ 35184372088832
          · rw [if_pos c7] at H
            have c7b0 := eq_true c7
            have c7b1 : decide ((a1 : Int).toNat ≤ 35184372088832) = true := decide_eq_true c7
            clear c7
            obtain ⟨y169, hy169⟩ : ∃ y_ : List Int, y_ = (List.replicate (a1 : Int).toNat 0) := ⟨_, rfl⟩
            replace H : (root_Powers.l0 kj2 a0 y169 1 (y169.length : Int) 0) = some (r1, r2) := by first | (rw [hy169]; with_reducible exact H) | (have H2_ := (Option.bind_some _ _).symm.trans H; rw [hy169]; with_reducible exact H2_) | (have H2_ := (Option.bind_some _ _).symm.trans H; with_reducible exact H2_) | with_reducible exact H | (rw [hy169]; exact H) | exact H
            have Ny169 := Aside0.mk hy169
            clear hy169
            have H' := Aside0.mk H
            clear H
            go_wp2_with (first | ((with_reducible refine gate_dst (N := 16) rfl ?_); refine Kd.R_make (Kd.int .u64) _ 23 rfl (N := 16) rfl 22 _ _ rfl a1 rfl rfl Tryd.underlying22 (.int .u64 0) 8 info23 rfl (by decide) (by omega) 0 (ok := fun _ => True) (okp := fun _ => True) rfl (fun _ hk => hk) trivial (of_decide_eq_true (by first | (with_reducible assumption) | assumption)) (Nat.le_trans (Nat.mul_le_mul_right _ (of_decide_eq_true (by first | (with_reducible assumption) | assumption) : a1.toNat ≤ 35184372088832)) (by omega)) (Below.refl _ _) (Nat.le_refl _) ?_; intro v170 w8 ho9 hb hg_ hnew_; clear hg_ hnew_; (first | rw [← Ny169.out] at ho9 | (simp only [Int.reduceToNat] at ho9; rw [← Ny169.out] at ho9)); have n0_ := Aside0.mk (Kd.R_lower ho9 (below_size (by repeat (first | (with_reducible first | exact HB.out | apply below_alloc | apply pw_below_drewN | apply below_drew1) | exact HB.out)))); have n1_ := Aside0.mk (below_step (by repeat (first | (with_reducible first | exact HB.out | apply below_alloc | apply pw_below_drewN | apply below_drew1) | exact HB.out)) hb); clear HB; have HO171 := n0_; have HB := n1_; clear n0_ n1_; clear hb ho9; obtain ⟨Ao10, co10, eo10⟩ := Kd.R_slice HO171.out; subst eo10))
            go_loopg [7, 19] kj2 (fun kq v7 v19 w' => ∃ (x6_2 : List Int) (x7_2 : Int) (x19_2 : Int), v7 = .int .u64 x7_2 ∧ v19 = .int .i64 x19_2 ∧ Aside0 (root_Powers.l0 kq a0 x6_2 x7_2 (y169.length : Int) x19_2 = some (r1, r2)) ∧ Aside0 (kq ≤ kj2) ∧ Aside0 (Kd.R (Kd.int .u64) 23 w' w.heap.size (fun _ => True) (.slice Ao10 y169.length co10) x6_2) ∧ Aside0 (Below w.heap.size w w'))
            case atStart => exact ⟨(y169), (1), (0), (by first | rfl | (simp; done) | (simp [*]; done)), (by first | rfl | (simp; done) | (simp [*]; done)), H', ⟨Nat.le_refl _⟩, ⟨by (with_reducible repeat (first | apply Kd.R_alloc | apply Kd.R_drewN | apply Kd.R_drew)); exact HO171.out⟩, ⟨by repeat (first | (with_reducible first | exact HB.out | apply below_alloc | apply pw_below_drewN | apply below_drew1) | exact HB.out)⟩⟩
            case round =>
              clear H'
              try clear p2
              try clear c4
              try clear c4b0
              try clear c5
              try clear c6
              try clear c6b0
              try clear c6b1
              try clear c7
              try clear c7b0
              try clear c7b1
              try clear p2
              obtain ⟨x6_2, x7_2, x19_2, rfl, rfl, HA, HK2, HO_6, HB⟩ := hrel
              have hl6_2 := (Kd.R_reads' HO_6.out).1
              rw [hl6_2] at HO_6
              (try simp only [hl6_2])
              cases gk with
              | zero => exact absurd HA.out (by simp [root_Powers.l0])
              | succ k2 =>
                have H := HA.out
                clear HA
                simp only [root_Powers.l0] at H
                by_cases c11 : x19_2 < (y169.length : Int)
                · rw [if_pos c11] at H
                  have c11b0 : decide (x19_2 < (y169.length : Int)) = true := decide_eq_true c11
                  (try (have c11b0_0 := c11b0; simp only [hl6_2] at c11b0_0))
                  clear c11
                  by_cases c12 : 0 ≤ x19_2
                  · rw [if_pos c12] at H
                    have c12b0 : decide (0 ≤ x19_2) = true := decide_eq_true c12
                    clear c12
                    by_cases c13 : x19_2 < (x6_2.length : Int)
                    · rw [if_pos c13] at H
                      have c13b0 : decide (x19_2 < (x6_2.length : Int)) = true := decide_eq_true c13
                      (try (have c13b0_0 := c13b0; simp only [hl6_2] at c13b0_0))
                      clear c13
                      obtain ⟨y172, hy172⟩ : ∃ y_ : List Int, y_ = (x6_2.set (x19_2 : Int).toNat x7_2) := ⟨_, rfl⟩
                      replace H : ((gold_Mul.f x7_2 a0).bind fun t173 => (root_Powers.l0 k2 a0 y172 t173 (y169.length : Int) (wrap64 (x19_2 + 1)))) = some (r1, r2) := by first | (rw [hy172]; with_reducible exact H) | (have H2_ := (Option.bind_some _ _).symm.trans H; rw [hy172]; with_reducible exact H2_) | (have H2_ := (Option.bind_some _ _).symm.trans H; with_reducible exact H2_) | with_reducible exact H | (rw [hy172]; exact H) | exact H
                      have Ny172 := Aside0.mk hy172
                      clear hy172
                      replace H := Option.bind_eq_some_iff.mp H
                      obtain ⟨t173, A150, H⟩ := H
                      replace H : (root_Powers.l0 k2 a0 y172 t173 (y169.length : Int) (wrap64 (x19_2 + 1))) = some (r1, r2) := H
                      have A15 := Aside0.mk A150
                      clear A150
                      have H' := Aside0.mk H
                      clear H
                      have p14 : 0 ≤ (x19_2 : Int) := of_decide_eq_true (by first | (with_reducible assumption) | assumption)
                      have q14 : (x19_2 : Int) < ((x6_2.length : Int) : Int) := of_decide_eq_true (by first | (with_reducible assumption) | assumption)
                      obtain ⟨go14, co14, eo14, gb14, gl14, cl14, HG14⟩ := Kd.R_form HO_6.out (by omega)
                      (first | cases eo14 | (injection eo14 with ea_ en_ ec_; (first | subst ea_ | (injection ea_ with ea_; subst ea_)); subst ec_; clear en_))
                      have GB14 := Aside0.mk gb14
                      have GG14 := Aside0.mk HG14
                      clear gb14 gl14 HG14
                      obtain ⟨hx14_0, hf14_0⟩ := Kd.R_celln 0 HO_6.out (x19_2 : Int) p14 q14
                      replace p14 := eq_true p14
                      replace q14 := eq_true q14
                      have HP16 := Kd.R_putg HO_6.out (x19_2 : Int) x7_2
                      go_wp2_with (first | ((with_reducible refine gate_store (t := 23) (p := 25) rfl ?_); refine store_event (t := 23) (p := 25) (v := ?vo_w17) (w1 := (wr.setCell ⟨go14, (x19_2 : Int).toNat, none⟩ (.int .u64 x7_2))) ?hg ?ho ?hn ?hr ?_; (case ho => rfl); (case hg => rfl); (case hn => rfl); (case hr => first | (go_simp; done) | (go_simp; rfl)); intro w17 hw; have hg : wr.grownBy w17 (some go14) := (by rw [hw]; exact HP16.2); have hp_ : Kd.R (Kd.int .u64) 23 w17 w.heap.size (fun _ => True) (.slice (some ⟨go14, 0, none⟩) x6_2.length co10) y172 := (by rw [hw, Ny172.out]; exact HP16.1); clear HP16; have n0_ := Aside0.mk (hp_); have n1_ := Aside0.mk ((by rw [hw]; exact below_set (HB.out) GB14.out : Below w.heap.size w w17)); clear HO_6; clear HB; have HO_6 := n0_; have HB := n1_; clear n0_ n1_; clear hg hw hp_) | ((with_reducible refine gate_callee (f := 40) rfl ?_); refine goesL_ (some 28) rfl rfl Tryd.func40 (by kernel_rfl) rfl #[.int .u64 x7_2, .int .u64 a0] rfl (by (try simp only [List.map_toArray, List.map_cons, List.map_nil]); first | done | rfl | (simp only [List.length_drop, List.length_take]; rfl)) ?_; (with_reducible refine (gold_Mul.calls x7_2 a0 t173 _ A15.out).mono ?_); rintro e w18 ⟨rfl, hb⟩; refine ⟨_, rfl, ?_⟩; have n0_ := Aside0.mk (Kd.R_below (by (with_reducible repeat (first | apply Kd.R_alloc | apply Kd.R_drewN | apply Kd.R_drew)); exact HO_6.out) hb); have n1_ := Aside0.mk (below_step (by repeat (first | (with_reducible first | exact HB.out | apply below_alloc | apply pw_below_drewN | apply below_drew1) | exact HB.out)) hb); clear HO_6; clear HB; have HO_6 := n0_; have HB := n1_; clear n0_ n1_; (try clear hb); (try clear hb2); (try clear hk); (try clear hi)))
                      (try simp only [← hl6_2])
                      (first | go_roundg k2 | (simp only [add_plain] at *; go_roundg k2))
                      case measure => have := HJ2.out; have := HK2.out; omega
                      case rel => exact ⟨(y172), (t173), (wrap64 (x19_2 + 1)), (by first | rfl | (simp; done) | (simp [*]; done)), (by first | rfl | (simp; done) | (simp [*]; done)), H', ⟨by have := HJ2.out; have := HK2.out; omega⟩, ⟨by (try simp only [hl6_2]); (with_reducible repeat (first | apply Kd.R_alloc | apply Kd.R_drewN | apply Kd.R_drew)); exact HO_6.out⟩, ⟨by repeat (first | (with_reducible first | exact HB.out | apply below_alloc | apply pw_below_drewN | apply below_drew1) | exact HB.out)⟩⟩
                    · rw [if_neg c13] at H
                      exact absurd H (by simp)
                  · rw [if_neg c12] at H
                    exact absurd H (by simp)
                · rw [if_neg c11] at H
                  have c11b0 : decide (x19_2 < (y169.length : Int)) = false := decide_eq_false c11
                  (try (have c11b0_0 := c11b0; simp only [hl6_2] at c11b0_0))
                  clear c11
                  simp only [Option.some.injEq, Prod.mk.injEq] at H
                  obtain ⟨rfl, rfl⟩ := H
                  go_wp2
                  go_ret2
                  exact ⟨_, by first | rfl | (simp [errW_none, errW_some] <;> rfl) | (simp [*, errW_none, errW_some] <;> rfl), by (with_reducible repeat (first | apply Kd.R_alloc | apply Kd.R_drewN | apply Kd.R_drew)); exact HO_6.out, by repeat (first | (with_reducible first | exact HB.out | apply below_alloc | apply pw_below_drewN | apply below_drew1) | exact HB.out)⟩
          · rw [if_neg c7] at H
            exact absurd H (by simp)
        · rw [if_neg c6] at H
          exact absurd H (by simp)

/-! ### twid_Table: function 69 -/
def twid_Table.f (k : Nat) (a0 : Int) (a1 : Int) : Option (List Int × Int) := (twid_Root.f k a0 a1).bind fun bt174 => (if bt174.2 = 0 then (if a0 > 20 then (some (([] : List Int), 14)) else (if 0 ≤ (IntKind.u64.wrap (a0)) then ((root_Powers.f k bt174.1 (mx ((shl .i64 1 (IntKind.u64.wrap (a0))) / 2) 1)).bind fun bt176 => (some (bt176.1, bt176.2))) else (none))) else (some (([] : List Int), bt174.2)))
theorem twid_Table.mono : ∀ a0 a1 k, LeO (twid_Table.f k a0 a1) (twid_Table.f (k + 1) a0 a1) := by
  intro a0 a1 k
  unfold twid_Table.f
  repeat' first
      | (with_reducible exact root_Powers.mono _ _ _)
      | (with_reducible exact twid_Root.mono _ _ _)
      | (with_reducible exact LeO.refl _)
      | (with_reducible exact LeO.none _)
      | (with_reducible refine LeO.ite ?_ ?_)
      | (with_reducible refine LeO.bind ?_ (fun _ => ?_))
      | exact root_Powers.mono _ _ _
      | exact twid_Root.mono _ _ _
      | exact LeO.none _
      | refine LeO.ite ?_ ?_
      | refine LeO.bind ?_ (fun _ => ?_)
set_option maxHeartbeats 8000000 in
set_option maxRecDepth 100000 in
theorem twid_Table.calls (k : Nat) (a0 : Int) (a1 : Int) (r1 : List Int) (r2 : Int) (w : World) (h : twid_Table.f k a0 a1 = some (r1, r2)) :
    Calls Tryd.prog 69 #[.int .i64 a0, .int .i64 a1] w fun e w' => ∃ v0_ : Value, e = .returned (.tuple #[v0_, .int .i64 r2]) ∧ Kd.R (Kd.int .u64) 23 w' w.heap.size (fun _ => True) v0_ r1 ∧ Below w.heap.size w w' := by
  have HB := Aside0.mk (Below.refl w.heap.size w)
  have H : ((twid_Root.f k a0 a1).bind fun bt174 => (if bt174.2 = 0 then (if a0 > 20 then (some (([] : List Int), 14)) else (if 0 ≤ (IntKind.u64.wrap (a0)) then ((root_Powers.f k bt174.1 (mx ((shl .i64 1 (IntKind.u64.wrap (a0))) / 2) 1)).bind fun bt176 => (some (bt176.1, bt176.2))) else (none))) else (some (([] : List Int), bt174.2)))) = some (r1, r2) := h
  clear h
  replace H := Option.bind_eq_some_iff.mp H
  obtain ⟨⟨t174, t175⟩, A30, H⟩ := H
  replace H : (if t175 = 0 then (if a0 > 20 then (some (([] : List Int), 14)) else (if 0 ≤ (IntKind.u64.wrap (a0)) then ((root_Powers.f k t174 (mx ((shl .i64 1 (IntKind.u64.wrap (a0))) / 2) 1)).bind fun bt176 => (some (bt176.1, bt176.2))) else (none))) else (some (([] : List Int), t175))) = some (r1, r2) := H
  have A3 := Aside0.mk A30
  clear A30
  by_cases c4 : t175 = 0
  · rw [if_pos c4] at H
    have c4b0 : (t175 == 0) = true := beq_iff_eq.mpr c4
    have c4b1 : (t175 != 0) = false := bne_eq_false_iff_eq.mpr c4
    clear c4
    by_cases c5 : a0 > 20
    · rw [if_pos c5] at H
      have c5b0 : decide (20 < a0) = true := decide_eq_true c5
      clear c5
      simp only [Option.some.injEq, Prod.mk.injEq] at H
      obtain ⟨rfl, rfl⟩ := H
      go_enter Tryd.func69, Tryd.ntmps69
      go_wp2_with (first | ((with_reducible refine gate_callee (f := 71) rfl ?_); refine goesL_ (some 11) rfl rfl Tryd.func71 (by kernel_rfl) rfl #[.int .i64 a0, .int .i64 a1] rfl (by (try simp only [List.map_toArray, List.map_cons, List.map_nil]); first | done | rfl | (simp only [List.length_drop, List.length_take]; rfl)) ?_; (with_reducible refine (twid_Root.calls k a0 a1 t174 t175 _ A3.out).mono ?_); rintro e w6 ⟨rfl, hb⟩; refine ⟨_, rfl, ?_⟩; have n0_ := Aside0.mk (below_step (by repeat (first | (with_reducible first | exact HB.out | apply below_alloc | apply pw_below_drewN | apply below_drew1) | exact HB.out)) hb); clear HB; have HB := n0_; clear n0_; (try clear hb); (try clear hb2); (try clear hk); (try clear hi)))
      go_ret2
      exact ⟨_, by first | rfl | (simp [errW_none, errW_some] <;> rfl) | (simp [*, errW_none, errW_some] <;> rfl), by first | exact Kd.R_nil _ _ _ _ _ | exact Kd.N_nil _ _ _ _ _ | exact Kd.V_nil _ _ _ _ _ | exact Kd.Q_nil _ _ _ _ _ | exact Kd.S_nil _ _ _ _ _, by repeat (first | (with_reducible first | exact HB.out | apply below_alloc | apply pw_below_drewN | apply below_drew1) | exact HB.out)⟩
    · rw [if_neg c5] at H
      have c5b0 : decide (20 < a0) = false := decide_eq_false c5
      clear c5
      obtain ⟨ji7, hji7⟩ : ∃ j_ : Int, (IntKind.u64.wrap (a0)) = j_ := ⟨_, rfl⟩
      replace H : (if 0 ≤ (ji7) then ((root_Powers.f k t174 (mx ((shl .i64 1 (ji7)) / 2) 1)).bind fun bt176 => (some (bt176.1, bt176.2))) else (none)) = some (r1, r2) := by first | (rw [hji7] at H; exact H) | (simp only [hji7] at H ⊢; exact H)
      (try rw [hji7] at A3)
      by_cases c8 : 0 ≤ (ji7)
      · rw [if_pos c8] at H
        have c8b0 := eq_true c8
        have c8b1 : decide (0 ≤ (ji7)) = true := decide_eq_true c8
        clear c8
        obtain ⟨ji9, hji9⟩ : ∃ j_ : Int, (shl .i64 1 (ji7)) = j_ := ⟨_, rfl⟩
        replace H : ((root_Powers.f k t174 (mx ((ji9) / 2) 1)).bind fun bt176 => (some (bt176.1, bt176.2))) = some (r1, r2) := by first | (rw [hji9] at H; exact H) | (simp only [hji9] at H ⊢; exact H)
        (try rw [hji9] at A3)
        have hji9_ : (IntKind.i64.wrap (1 * 2 ^ min (ji7).toNat 64)) = ji9 := hji9
        have hji9z : (ji7) ≤ 64 → (IntKind.i64.wrap (1 * 2 ^ (ji7).toNat)) = ji9 := shl_small hji9
        have hji9u : (IntKind.i64.wrap (2 ^ min (ji7).toNat 64)) = ji9 := by have h_ := hji9_; rw [Int.one_mul] at h_; exact h_
        have hji9v : (ji7) ≤ 64 → (IntKind.i64.wrap (2 ^ (ji7).toNat)) = ji9 := fun hle_ => by have h_ := hji9z hle_; rw [Int.one_mul] at h_; exact h_
        have hji9y : (wrap64 (1 * 2 ^ min (ji7).toNat 64)) = ji9 := (i64_w _).symm.trans hji9_
        have hji9x : (ji7) ≤ 64 → (wrap64 (1 * 2 ^ (ji7).toNat)) = ji9 := fun h_ => (i64_w _).symm.trans (hji9z h_)
        obtain ⟨ji10, hji10⟩ : ∃ j_ : Int, (mx ((ji9) / 2) 1) = j_ := ⟨_, rfl⟩
        replace H : ((root_Powers.f k t174 (ji10)).bind fun bt176 => (some (bt176.1, bt176.2))) = some (r1, r2) := by first | (rw [hji10] at H; exact H) | (simp only [hji10] at H ⊢; exact H)
        (try rw [hji10] at A3)
        have hji10_ : (if ((ji9) / 2) < 1 then 1 else ((ji9) / 2)) = ji10 := hji10
        replace H := Option.bind_eq_some_iff.mp H
        obtain ⟨⟨t176, t177⟩, A110, H⟩ := H
        replace H : (some (t176, t177)) = some (r1, r2) := H
        have A11 := Aside0.mk A110
        clear A110
        simp only [Option.some.injEq, Prod.mk.injEq] at H
        obtain ⟨rfl, rfl⟩ := H
        go_enter Tryd.func69, Tryd.ntmps69
        go_wp2_with (first | ((with_reducible refine gate_callee (f := 71) rfl ?_); refine goesL_ (some 11) rfl rfl Tryd.func71 (by kernel_rfl) rfl #[.int .i64 a0, .int .i64 a1] rfl (by (try simp only [List.map_toArray, List.map_cons, List.map_nil]); first | done | rfl | (simp only [List.length_drop, List.length_take]; rfl)) ?_; (with_reducible refine (twid_Root.calls k a0 a1 t174 t175 _ A3.out).mono ?_); rintro e w12 ⟨rfl, hb⟩; refine ⟨_, rfl, ?_⟩; have n0_ := Aside0.mk (below_step (by repeat (first | (with_reducible first | exact HB.out | apply below_alloc | apply pw_below_drewN | apply below_drew1) | exact HB.out)) hb); clear HB; have HB := n0_; clear n0_; (try clear hb); (try clear hb2); (try clear hk); (try clear hi)) | ((with_reducible refine gate_callee (f := 75) rfl ?_); refine goesL_ (some 27) rfl rfl Tryd.func75 (by kernel_rfl) rfl #[.int .u64 t174, .int .i64 ji10] rfl (by (try simp only [List.map_toArray, List.map_cons, List.map_nil]); first | done | (simp only [hji10]; rfl) | rfl | (simp only [List.length_drop, List.length_take]; rfl)) ?_; (with_reducible refine (root_Powers.calls k t174 ji10 t176 t177 _ A11.out).mono ?_); rintro e w13 ⟨v178, rfl, ho0, hb⟩; refine ⟨_, rfl, ?_⟩; have n0_ := Aside0.mk (Kd.R_lower ho0 (below_size (by repeat (first | (with_reducible first | exact HB.out | apply below_alloc | apply pw_below_drewN | apply below_drew1) | exact HB.out)))); have n1_ := Aside0.mk (below_step (by repeat (first | (with_reducible first | exact HB.out | apply below_alloc | apply pw_below_drewN | apply below_drew1) | exact HB.out)) hb); clear HB; have HO179 := n0_; have HB := n1_; clear n0_ n1_; (try clear hb); (try clear hb2); (try clear hk); (try clear hi); (try clear ho0)))
        go_ret2
        exact ⟨_, by first | rfl | (simp [errW_none, errW_some] <;> rfl) | (simp only [← hji7, ← hji9, ← hji10]; first | rfl | (simp [errW_none, errW_some] <;> rfl)) | (simp [*, errW_none, errW_some] <;> rfl), by (with_reducible repeat (first | apply Kd.R_alloc | apply Kd.R_drewN | apply Kd.R_drew)); exact HO179.out, by repeat (first | (with_reducible first | exact HB.out | apply below_alloc | apply pw_below_drewN | apply below_drew1) | exact HB.out)⟩
      · rw [if_neg c8] at H
        exact absurd H (by simp)
  · rw [if_neg c4] at H
    have c4b0 : (t175 == 0) = false := beq_eq_false_iff_ne.mpr c4
    have c4b1 : (t175 != 0) = true := bne_iff_ne.mpr c4
    simp only [Option.some.injEq, Prod.mk.injEq] at H
    obtain ⟨rfl, rfl⟩ := H
    go_enter Tryd.func69, Tryd.ntmps69
    go_wp2_with (first | ((with_reducible refine gate_callee (f := 71) rfl ?_); refine goesL_ (some 11) rfl rfl Tryd.func71 (by kernel_rfl) rfl #[.int .i64 a0, .int .i64 a1] rfl (by (try simp only [List.map_toArray, List.map_cons, List.map_nil]); first | done | rfl | (simp only [List.length_drop, List.length_take]; rfl)) ?_; (with_reducible refine (twid_Root.calls k a0 a1 t174 t175 _ A3.out).mono ?_); rintro e w14 ⟨rfl, hb⟩; refine ⟨_, rfl, ?_⟩; have n0_ := Aside0.mk (below_step (by repeat (first | (with_reducible first | exact HB.out | apply below_alloc | apply pw_below_drewN | apply below_drew1) | exact HB.out)) hb); clear HB; have HB := n0_; clear n0_; (try clear hb); (try clear hb2); (try clear hk); (try clear hi)))
    go_ret2
    exact ⟨_, by first | rfl | (simp [errW_none, errW_some] <;> rfl) | (simp [*, errW_none, errW_some] <;> rfl), by first | exact Kd.R_nil _ _ _ _ _ | exact Kd.N_nil _ _ _ _ _ | exact Kd.V_nil _ _ _ _ _ | exact Kd.Q_nil _ _ _ _ _ | exact Kd.S_nil _ _ _ _ _, by repeat (first | (with_reducible first | exact HB.out | apply below_alloc | apply pw_below_drewN | apply below_drew1) | exact HB.out)⟩

end Go.Proofs.YtnmjomcpkckihaaDoor.PChirpTwos
