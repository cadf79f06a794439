-- Written for this claim by wip/gen/mk.sh, this session's own driver over the kit's print
import Derived.Test.YtggmpdmlbjllhaaDoorPHalvesRunx0
import Derived.Test.YtggmpdmlbjllhaaDoorPHalvesRunx2
import Derived.Test.YtggmpdmlbjllhaaDoorPHalvesRunx3
namespace Go.Proofs.YtggmpdmlbjllhaaDoor.PHalvesRun
open Go.RowKit Go.Proofs.YtggmpdmlbjllhaaDoorW.PrintWords Go.Proofs.YtggmpdmlbjllhaaDoorW.PrintLast Go.Proofs.YtggmpdmlbjllhaaDoorW.PrintMore
attribute [local go_sem] max2_int min2_int max_two min_two max_three min_three max_four min_four   -- for this text's walks alone
set_option linter.unusedVariables false
set_option linter.unusedSimpArgs false

/-! ### kern2_Kernel_Run: function 24 (by hand) -/
set_option maxHeartbeats 8000000 in
set_option maxRecDepth 100000 in
theorem kern2_Run.calls0 (n k : Nat) (hk : k ≤ 10) (u : Value) (l0 td r : List Int) (b : Nat) (v0 v1 : Value) (s : Int) (TD : Option Addr) (cd : Nat) (S : Nat → Prop) (hS : ∀ j, S j ↔ u.ownBlock = some j) (w0 w : World) (hG : Aside0 (TzTab w)) (hB : Below w0.heap.size w0 w)
    (ho0 : Kd.R (Kd.int .u64) 32 w w0.heap.size S u l0)
    (hX : ∀ W, Kept w W S → W.heap[b]? = some (.cells #[v0, v1, .int .u64 s, .int .i64 (k : Int)] 59 (0, 0)))
    (hT : ∀ W, Kept w W S → Kd.C (Kd.int .u64) W TD td.length td) (hcd : td.length ≤ cd)
    (hv : v0 = .slice TD td.length cd)
    (hl : l0.length = 2 ^ k) (hf : root_Fits.f ((l0.length : Nat) : Int) = some ((k : Int), true)) (h : hk_stg n td (hk_ofs (hk_mv k l0 l0.length) l0 l0.length) k = some r) :
    Calls Tryd.prog 24 #[.pointer (some ⟨b, 0, none⟩), u, .int .i64 0] w fun e w' => e = .returned (.int .i64 0) ∧ Kd.R (Kd.int .u64) 32 w' w0.heap.size S u r ∧ Below w0.heap.size w0 w' ∧ Kept w w' S := by
  have C := kern2_Plain.calls n k hk u l0 td r b v0 v1 s 0 TD cd S hS w0 w hG hB ho0 hX hT hcd (.inl ⟨rfl, hv⟩) hl hf h
  have C := Aside0.mk C
  obtain ⟨g, co, eo, gb, gl, cl, hGG⟩ := Kd.R_form ho0 (by rw [hl]; exact Nat.two_pow_pos k)
  subst eo
  clear hk hB hX hT hcd hv hl hf h ho0 hS gb gl hGG
  go_enter Tryd.func24, Tryd.ntmps24
  go_wp2_with (go_at_call 25; (with_reducible refine (C.out).mono ?_); rintro e w1 ⟨rfl, hR, hB, hK⟩; have hR := Aside0.mk hR; have hB := Aside0.mk hB; have hK := Aside0.mk hK)
  go_ret
  exact ⟨rfl, hR.out, hB.out, hK.out⟩
theorem hk_scale_at (k : Nat) (A0 : Option Addr) (c0 m : Nat) (l0 : List Int) (a1 : Int) (r : List Int) (w : World) (hm : m = l0.length) (hr0 : Kd.C (Kd.int .u64) w A0 l0.length l0) (hc0 : l0.length ≤ c0) (h : twid_Scale.f k l0 a1 = some r) :
    Calls Tryd.prog 43 #[.slice A0 m c0, .int .u64 a1] w fun e w' => ∃ v0_ : Value, e = .returned (v0_) ∧ Kd.R (Kd.int .u64) 32 w' w.heap.size (fun _ => True) v0_ r ∧ Below w.heap.size w w' := by
  subst hm
  exact twid_Scale.calls k A0 c0 l0 a1 r w hr0 hc0 h
set_option maxHeartbeats 800000 in
set_option maxRecDepth 100000 in
theorem kern2_Run.calls1 (n k : Nat) (hk : k ≤ 10) (u : Value) (l0 td r r2 : List Int) (b : Nat) (v0 v1 : Value) (s : Int) (TD : Option Addr) (cd : Nat) (S : Nat → Prop) (hS : ∀ j, S j ↔ u.ownBlock = some j) (w0 w : World) (hG : Aside0 (TzTab w)) (hB : Below w0.heap.size w0 w)
    (ho0 : Kd.R (Kd.int .u64) 32 w w0.heap.size S u l0)
    (hX : ∀ W, Kept w W S → W.heap[b]? = some (.cells #[v0, v1, .int .u64 s, .int .i64 (k : Int)] 59 (0, 0)))
    (hT : ∀ W, Kept w W S → Kd.C (Kd.int .u64) W TD td.length td) (hcd : td.length ≤ cd)
    (hv : v1 = .slice TD td.length cd)
    (hl : l0.length = 2 ^ k) (hf : root_Fits.f ((l0.length : Nat) : Int) = some ((k : Int), true)) (h : hk_stg n td (hk_ofs (hk_mv k l0 l0.length) l0 l0.length) k = some r) (h2 : twid_Scale.f n r s = some r2) (hr2 : r2.length = r.length) :
    Calls Tryd.prog 24 #[.pointer (some ⟨b, 0, none⟩), u, .int .i64 1] w fun e w' => e = .returned (.int .i64 0) ∧ Kd.R (Kd.int .u64) 32 w' w0.heap.size S u r2 ∧ Below w0.heap.size w0 w' ∧ Kept w w' S := by
  have C := kern2_Plain.calls n k hk u l0 td r b v0 v1 s 1 TD cd S hS w0 w hG hB ho0 hX hT hcd (.inr ⟨rfl, hv⟩) hl hf h
  have C := Aside0.mk C
  obtain ⟨g, co, eo, gb, gl, cl, hGG⟩ := Kd.R_form ho0 (by rw [hl]; exact Nat.two_pow_pos k)
  subst eo
  have HX := Aside0.mk hX
  have H2 := Aside0.mk h2
  have HR2 := Aside0.mk hr2
  have HP := Aside0.mk (show 0 < l0.length by rw [hl]; exact Nat.two_pow_pos k)
  have HSG := Aside0.mk (show S g from (hS g).2 rfl)
  have GB := Aside0.mk gb
  clear hk hB hX hT hcd hv hl hf h ho0 hS gb gl hGG h2 hr2
  go_enter Tryd.func24, Tryd.ntmps24
  go_wp2_with (first | (go_at_call 25; (with_reducible refine (C.out).mono ?_); rintro e w1 ⟨rfl, hR, hB, hK⟩; have hc2 := hk_blk_cell (HX.out _ hK) 2 _ rfl; have hR := Aside0.mk hR; have hB := Aside0.mk hB; have hK := Aside0.mk hK) | (go_at_call 43; (with_reducible refine (hk_scale_at n (some ⟨g, 0, none⟩) co l0.length r s r2 _ (Kd.R_reads' hR.out).1 (Kd.R_reads' hR.out).2.2 ?hco H2.out).mono ?_); (case hco => have h1 := Kd.R_reads' hR.out; omega); rintro e w3 ⟨vs, rfl, hs3, hb3⟩; obtain ⟨As, cs_, ev⟩ := Kd.R_slice hs3; rw [show r2.length = l0.length from HR2.out.trans (Kd.R_reads' hR.out).1.symm] at ev; subst ev; have hR3 := Aside0.mk (Kd.R_below hR.out hb3); have hB3 := Aside0.mk (hB.out.trans (hb3.mono hB.out.size)); have hK3 := Aside0.mk (hK.out.below hb3); have hs3 := Aside0.mk (Kd.R_reads' hs3).2.2; clear hb3) | ((with_reducible refine hk_wpList_copy_whole (o := ⟨some 26, _, _, _, _, _⟩) rfl (.tmp 18) (.tmp 25) 22 32 rfl Tryd.underlying22 ?ci g l0.length co As cs_ ?cd ?cs hR3.out hs3.out ?cl HP.out ?_); (case ci => rfl); (case cd => rfl); (case cs => rfl); (case cl => exact HR2.out.trans (Kd.R_reads' hR3.out).1.symm); intro w4 hR4 hg4; have hB4 := Aside0.mk (hB3.out.trans ⟨hg4.os, hg4.tape, hg4.output, hg4.size, fun q hq => hg4.block q (Nat.lt_of_lt_of_le hq hB3.out.size) (fun e => by have := GB.out; injection e with e; omega)⟩); have hK4 := Aside0.mk (Kept.of_grown hg4 hK3.out (fun q hq => .inl (by injection hq with hq; rw [← hq]; exact HSG.out))); have hR4 := Aside0.mk hR4; clear hg4))
  go_ret
  exact ⟨rfl, hR4.out, hB4.out, hK4.out⟩
theorem kern2_Run.calls (n k : Nat) (hk : k ≤ 10) (u : Value) (l0 td r rr : List Int) (b : Nat) (v0 v1 : Value) (s d : Int) (TD : Option Addr) (cd : Nat) (S : Nat → Prop) (hS : ∀ j, S j ↔ u.ownBlock = some j) (w0 w : World) (hG : Aside0 (TzTab w)) (hB : Below w0.heap.size w0 w)
    (ho0 : Kd.R (Kd.int .u64) 32 w w0.heap.size S u l0)
    (hX : ∀ W, Kept w W S → W.heap[b]? = some (.cells #[v0, v1, .int .u64 s, .int .i64 (k : Int)] 59 (0, 0)))
    (hT : ∀ W, Kept w W S → Kd.C (Kd.int .u64) W TD td.length td) (hcd : td.length ≤ cd)
    (hv : (d = 0 ∧ v0 = .slice TD td.length cd) ∨ (d = 1 ∧ v1 = .slice TD td.length cd))
    (hl : l0.length = 2 ^ k) (hf : root_Fits.f ((l0.length : Nat) : Int) = some ((k : Int), true)) (h : hk_stg n td (hk_ofs (hk_mv k l0 l0.length) l0 l0.length) k = some r)
    (h2 : (d = 0 ∧ rr = r) ∨ (d = 1 ∧ twid_Scale.f n r s = some rr ∧ rr.length = r.length)) :
    Calls Tryd.prog 24 #[.pointer (some ⟨b, 0, none⟩), u, .int .i64 d] w fun e w' => e = .returned (.int .i64 0) ∧ Kd.R (Kd.int .u64) 32 w' w0.heap.size S u rr ∧ Below w0.heap.size w0 w' ∧ Kept w w' S := by
  rcases h2 with ⟨rfl, rfl⟩ | ⟨rfl, h2, h3⟩
  · rcases hv with ⟨_, hv⟩ | ⟨hd, _⟩
    · exact kern2_Run.calls0 n k hk u l0 td rr b v0 v1 s TD cd S hS w0 w hG hB ho0 hX hT hcd hv hl hf h
    · exact absurd hd (by decide)
  · rcases hv with ⟨hd, _⟩ | ⟨_, hv⟩
    · exact absurd hd (by decide)
    · exact kern2_Run.calls1 n k hk u l0 td r rr b v0 v1 s TD cd S hS w0 w hG hB ho0 hX hT hcd hv hl hf h h2 h3
/-- What a transform by halves makes, undivided (plain) or as it is. -/
def hk_run2 (n k : Nat) (t0 t1 : List Int) (s d : Int) (plain : Bool) (l0 rr : List Int) : Prop :=
  ∃ r, (d = 0 ∨ d = 1) ∧ l0.length = 2 ^ k ∧ root_Fits.f ((l0.length : Nat) : Int) = some ((k : Int), true) ∧ hk_stg n (if d = 0 then t0 else t1) (hk_ofs (hk_mv k l0 l0.length) l0 l0.length) k = some r ∧ (((plain = true ∨ d = 0) ∧ rr = r) ∨ (plain = false ∧ d = 1 ∧ twid_Scale.f n r s = some rr ∧ rr.length = r.length))
theorem hk_Run2.use (n k : Nat) (hk : k ≤ 10) (u : Value) (l0 rr t0 t1 : List Int) (s d : Int) (lo hi b : Nat) (plain : Bool) (w0 w : World) (hG : Aside0 (TzTab w)) (hB : Below w0.heap.size w0 w) (K : hk_K2 k t0 t1 s lo hi b w)
    (ho : Kd.R (Kd.int .u64) 32 w w0.heap.size (fun _ => True) u l0) (hu : ∀ j, u.ownBlock = some j → j < lo ∨ hi ≤ j) (h : hk_run2 n k t0 t1 s d plain l0 rr) :
    Calls Tryd.prog (if plain = true then 25 else 24) #[.pointer (some ⟨b, 0, none⟩), u, .int .i64 d] w fun e w' => e = .returned (.int .i64 0) ∧ Kd.R (Kd.int .u64) 32 w' w0.heap.size (fun _ => True) u rr ∧ Below w0.heap.size w0 w' ∧ Kept w w' (fun j => u.ownBlock = some j) := by
  obtain ⟨r, hd, hl, hf, hr, h2⟩ := h
  obtain ⟨⟨h0, h1⟩, v0, v1, hX, hR0, hR1⟩ := K
  have far : ∀ j, lo ≤ j → j < hi → ¬ u.ownBlock = some j := fun j hl hj e => by have := hu j e; omega
  have hoS : Kd.R (Kd.int .u64) 32 w w0.heap.size (fun j => u.ownBlock = some j) u l0 := Kd.R_flat (fun h => h) ho (fun q hq _ => hq)
  obtain ⟨D0, m0, rfl⟩ := Kd.R_slice hR0
  obtain ⟨D1, m1, rfl⟩ := Kd.R_slice hR1
  have key : ∀ (td : List Int) (TD : Option Addr) (cd : Nat), hk_stg n td (hk_ofs (hk_mv k l0 l0.length) l0 l0.length) k = some r → Kd.R (Kd.int .u64) 32 w lo (fun j => j < hi) (.slice TD td.length cd) td → ((d = 0 ∧ (Value.slice D0 t0.length m0) = .slice TD td.length cd) ∨ (d = 1 ∧ (Value.slice D1 t1.length m1) = .slice TD td.length cd)) →
      Calls Tryd.prog (if plain = true then 25 else 24) #[.pointer (some ⟨b, 0, none⟩), u, .int .i64 d] w fun e w' => e = .returned (.int .i64 0) ∧ Kd.R (Kd.int .u64) 32 w' w0.heap.size (fun _ => True) u rr ∧ Below w0.heap.size w0 w' ∧ Kept w w' (fun j => u.ownBlock = some j) := by
    intro td TD cd hs hR hv
    have hT : ∀ W, Kept w W (fun j => u.ownBlock = some j) → Kd.C (Kd.int .u64) W TD td.length td := Kd.C_kept_own (S := fun j => u.ownBlock = some j) (Kd.R_bound hR) (fun q hq => far q hq.2.1 hq.1)
    cases plain with
    | true =>
      rw [if_pos rfl]
      rcases h2 with ⟨_, rfl⟩ | ⟨hq, _⟩
      · refine (kern2_Plain.calls n k hk u l0 td rr b _ _ s d TD cd (fun j => u.ownBlock = some j) (fun _ => Iff.rfl) w0 w hG hB hoS (fun W hW => blk_kept hX hW (far _ h0 h1)) hT (Kd.R_reads' hR).2.1 hv hl hf hs).mono ?_
        rintro e w' ⟨he, hR', hB', hK'⟩
        exact ⟨he, Kd.R_mono hR' (fun _ _ => trivial), hB', hK'⟩
      · cases hq
    | false =>
      rw [if_neg (by decide)]
      refine (kern2_Run.calls n k hk u l0 td r rr b _ _ s d TD cd (fun j => u.ownBlock = some j) (fun _ => Iff.rfl) w0 w hG hB hoS (fun W hW => blk_kept hX hW (far _ h0 h1)) hT (Kd.R_reads' hR).2.1 hv hl hf hs ?_).mono ?_
      · rcases h2 with ⟨hq | hq, e⟩ | ⟨_, hq, e⟩
        · cases hq
        · exact .inl ⟨hq, e⟩
        · exact .inr ⟨hq, e⟩
      · rintro e w' ⟨he, hR', hB', hK'⟩
        exact ⟨he, Kd.R_mono hR' (fun _ _ => trivial), hB', hK'⟩
  rcases hd with rfl | rfl
  · exact key t0 D0 m0 hr hR0 (.inl ⟨rfl, rfl⟩)
  · exact key t1 D1 m1 hr hR1 (.inr ⟨rfl, rfl⟩)
theorem hk_Run2.run (n k : Nat) (hk : k ≤ 10) (u : Value) (l0 rr t0 t1 : List Int) (s d : Int) (lo b : Nat) (w2 w : World) (hG : Aside0 (TzTab w)) (H2 : Below w2.heap.size w2 w) (K : hk_K2 k t0 t1 s lo w2.heap.size b w2)
    (ho : Kd.R (Kd.int .u64) 32 w w2.heap.size (fun _ => True) u l0) (h : hk_run2 n k t0 t1 s d false l0 rr) :
    Calls Tryd.prog 24 #[.pointer (some ⟨b, 0, none⟩), u, .int .i64 d] w fun e w' => e = .returned (.int .i64 0) ∧ Kd.R (Kd.int .u64) 32 w' w2.heap.size (fun _ => True) u rr ∧ Below w2.heap.size w2 w' ∧ Kept w w' (fun j => u.ownBlock = some j) := by
  have h := hk_Run2.use n k hk u l0 rr t0 t1 s d lo w2.heap.size b false w2 w hG H2 (K.below H2) ho (fun j hj => .inr ((Kd.R_bound ho).1 j hj).2.1) h
  rw [if_neg (by decide)] at h
  exact h
theorem hk_Run2.plain (n k : Nat) (hk : k ≤ 10) (u : Value) (l0 rr t0 t1 : List Int) (s d : Int) (lo b : Nat) (w2 w : World) (hG : Aside0 (TzTab w)) (H2 : Below w2.heap.size w2 w) (K : hk_K2 k t0 t1 s lo w2.heap.size b w2)
    (ho : Kd.R (Kd.int .u64) 32 w w2.heap.size (fun _ => True) u l0) (h : hk_run2 n k t0 t1 s d true l0 rr) :
    Calls Tryd.prog 25 #[.pointer (some ⟨b, 0, none⟩), u, .int .i64 d] w fun e w' => e = .returned (.int .i64 0) ∧ Kd.R (Kd.int .u64) 32 w' w2.heap.size (fun _ => True) u rr ∧ Below w2.heap.size w2 w' ∧ Kept w w' (fun j => u.ownBlock = some j) := by
  have h := hk_Run2.use n k hk u l0 rr t0 t1 s d lo w2.heap.size b true w2 w hG H2 (K.below H2) ho (fun j hj => .inr ((Kd.R_bound ho).1 j hj).2.1) h
  rw [if_pos rfl] at h
  exact h
set_option maxHeartbeats 800000 in
set_option maxRecDepth 100000 in
theorem kern2_table.none (b : Nat) (d : Int) (w : World) (h : d < 0 ∨ 1 < d) : Calls Tryd.prog 44 #[.pointer (some ⟨b, 0, none⟩), .int .i64 d] w fun e w' => e = .returned (.tuple #[.slice none 0 0, .bool false]) ∧ Drawn0 w w' := by
  by_cases c : d < 0
  · have d1 : decide (d < 0) = true := decide_eq_true c
    clear c h
    go_enter Tryd.func44, Tryd.ntmps44
    go_wp2
    go_ret2
    exact ⟨rfl, by repeat (first | exact Drawn0.refl _ | apply Drawn0.step)⟩
  · have d1 : decide (d < 0) = false := decide_eq_false c
    have d2 : decide (1 < d) = true := decide_eq_true (by omega)
    clear c h
    go_enter Tryd.func44, Tryd.ntmps44
    go_wp2
    go_ret2
    exact ⟨rfl, by repeat (first | exact Drawn0.refl _ | apply Drawn0.step)⟩
set_option maxHeartbeats 800000 in
set_option maxRecDepth 100000 in
theorem kern2_Plain.err (k : Nat) (hk : k ≤ 20) (t0 t1 : List Int) (s : Int) (lo hi b : Nat) (A : Option Addr) (m c : Nat) (d er : Int) (w : World) (K : hk_K2 k t0 t1 s lo hi b w) (h : hk_err k m d er) :
    Calls Tryd.prog 25 #[.pointer (some ⟨b, 0, none⟩), .slice A m c, .int .i64 d] w fun e w' => e = .returned (.int .i64 er) ∧ Drawn0 w w' := by
  obtain ⟨_, v0, v1, hX, _, _⟩ := K
  have hc3 := hk_blk_cell hX 3 _ rfl
  have hs := hk_shl_k hk
  clear hX hk
  rcases h with ⟨hm, rfl⟩ | ⟨hm, hd, rfl⟩
  · have hcond : ((m : Int) != wrap64 (2 ^ min (IntKind.u64.wrap (k : Int)).toNat 64)) = true := by rw [hs]; exact bne_iff_ne.2 (by omega)
    clear hs hm
    go_enter Tryd.func25, Tryd.ntmps25
    go_wp2
    go_ret
    exact ⟨rfl, by repeat (first | exact Drawn0.refl _ | apply Drawn0.step)⟩
  · have hcond : ((m : Int) != wrap64 (2 ^ min (IntKind.u64.wrap (k : Int)).toNat 64)) = false := by rw [hs, hm]; exact bne_self_eq_false _
    have HD := Aside0.mk hd
    clear hs hm hd
    go_enter Tryd.func25, Tryd.ntmps25
    go_wp2_with (go_at_call 44; (with_reducible refine (kern2_table.none b d _ HD.out).mono ?_); rintro e w1 ⟨rfl, hb1⟩; have hb1 := Aside0.mk hb1)
    go_ret
    exact ⟨rfl, by repeat (first | exact hb1.out | apply Drawn0.step)⟩
set_option maxHeartbeats 800000 in
set_option maxRecDepth 100000 in
theorem kern2_Run.err (k : Nat) (hk : k ≤ 20) (t0 t1 : List Int) (s : Int) (lo hi b : Nat) (A : Option Addr) (m c : Nat) (d er : Int) (w : World) (K : hk_K2 k t0 t1 s lo hi b w) (h : hk_err k m d er) :
    Calls Tryd.prog 24 #[.pointer (some ⟨b, 0, none⟩), .slice A m c, .int .i64 d] w fun e w' => e = .returned (.int .i64 er) ∧ Drawn0 w w' := by
  have C := Aside0.mk (kern2_Plain.err k hk t0 t1 s lo hi b A m c d er w K h)
  have he : er = 4 ∨ er = 18 := by rcases h with ⟨_, h⟩ | ⟨_, _, h⟩ <;> omega
  clear K h hk
  rcases he with rfl | rfl
  · go_enter Tryd.func24, Tryd.ntmps24
    go_wp2_with (go_at_call 25; (with_reducible refine (C.out).mono ?_); rintro e w1 ⟨rfl, hb1⟩; have hb1 := Aside0.mk hb1)
    go_ret
    exact ⟨rfl, by repeat (first | exact hb1.out | apply Drawn0.step)⟩
  · go_enter Tryd.func24, Tryd.ntmps24
    go_wp2_with (go_at_call 25; (with_reducible refine (C.out).mono ?_); rintro e w1 ⟨rfl, hb1⟩; have hb1 := Aside0.mk hb1)
    go_ret
    exact ⟨rfl, by repeat (first | exact hb1.out | apply Drawn0.step)⟩

/-! ### kern2_Transform: function 11 (by hand) -/
theorem kern2_Run.fresh (n k : Nat) (hk : k ≤ 10) (v3 : Value) (l0 t0 t1 r rr : List Int) (v0 v1 : Value) (s d : Int) (hd : d = 0 ∨ d = 1) (w w3 w4 : World) (hG : Aside0 (TzTab w)) (hb3 : Below w.heap.size w w3) (ho3 : Kd.R (Kd.int .u64) 32 w3 w.heap.size (fun _ => True) v3 l0)
    (hb4 : Below w3.heap.size w3 w4) (hX : w4.heap[w3.heap.size]? = some (.cells #[v0, v1, .int .u64 s, .int .i64 (k : Int)] 59 (0, 0)))
    (hR0 : Kd.R (Kd.int .u64) 32 w4 w3.heap.size (fun j => j ≠ w3.heap.size) v0 t0) (hR1 : Kd.R (Kd.int .u64) 32 w4 w3.heap.size (fun j => j ≠ w3.heap.size) v1 t1)
    (hl : l0.length = 2 ^ k) (hf : root_Fits.f ((l0.length : Nat) : Int) = some ((k : Int), true)) (h : hk_stg n (if d = 0 then t0 else t1) (hk_ofs (hk_mv k l0 l0.length) l0 l0.length) k = some r)
    (h2 : (d = 0 ∧ rr = r) ∨ (d = 1 ∧ twid_Scale.f n r s = some rr ∧ rr.length = r.length)) :
    Calls Tryd.prog 24 #[.pointer (some ⟨w3.heap.size, 0, none⟩), v3, .int .i64 d] w4 fun e w' => e = .returned (.int .i64 0) ∧ Kd.R (Kd.int .u64) 32 w' w.heap.size (fun _ => True) v3 rr ∧ Below w.heap.size w w' := by
  have hlt := Kd.R_lt ho3
  have ho4 : Kd.R (Kd.int .u64) 32 w4 w.heap.size (fun j => v3.ownBlock = some j) v3 l0 := Kd.R_flat (fun h => h) (Kd.R_below ho3 hb4) (fun q hq _ => hq)
  have hb : Below w.heap.size w w4 := hb3.trans (hb4.mono hb3.size)
  have far : ∀ j, w3.heap.size ≤ j → ¬ v3.ownBlock = some j := fun j hj e => by have := hlt j e; omega
  obtain ⟨D0, m0, rfl⟩ := Kd.R_slice hR0
  obtain ⟨D1, m1, rfl⟩ := Kd.R_slice hR1
  have key : ∀ (td : List Int) (TD : Option Addr) (cd : Nat), Kd.R (Kd.int .u64) 32 w4 w3.heap.size (fun j => j ≠ w3.heap.size) (.slice TD td.length cd) td → ((d = 0 ∧ (Value.slice D0 t0.length m0) = .slice TD td.length cd) ∨ (d = 1 ∧ (Value.slice D1 t1.length m1) = .slice TD td.length cd)) → hk_stg n td (hk_ofs (hk_mv k l0 l0.length) l0 l0.length) k = some r →
      Calls Tryd.prog 24 #[.pointer (some ⟨w3.heap.size, 0, none⟩), v3, .int .i64 d] w4 fun e w' => e = .returned (.int .i64 0) ∧ Kd.R (Kd.int .u64) 32 w' w.heap.size (fun _ => True) v3 rr ∧ Below w.heap.size w w' := by
    intro td TD cd hR hv hs
    refine (kern2_Run.calls n k hk v3 l0 td r rr w3.heap.size _ _ s d TD cd (fun j => v3.ownBlock = some j) (fun _ => Iff.rfl) w w4 ⟨hG.out.below hb⟩ hb ho4 (fun W hW => blk_kept hX hW (far _ (Nat.le_refl _))) ?_ (Kd.R_reads' hR).2.1 hv hl hf hs h2).mono ?_
    · exact Kd.C_kept_own (S := fun j => v3.ownBlock = some j) (Kd.R_bound hR) (fun q hq => far q hq.2.1)
    · rintro e w' ⟨he, hR', hB', _⟩
      exact ⟨he, Kd.R_mono hR' (fun _ _ => trivial), hB'⟩
  rcases hd with rfl | rfl
  · exact key t0 D0 m0 hR0 (.inl ⟨rfl, rfl⟩) h
  · exact key t1 D1 m1 hR1 (.inr ⟨rfl, rfl⟩) h
set_option maxHeartbeats 800000 in
set_option maxRecDepth 100000 in
theorem kern2_Transform.walk (n k : Nat) (hk : k ≤ 10) (A0 : Option Addr) (c0 : Nat) (l0 t0 t1 r rr : List Int) (e0 e1 s es d : Int) (hd : d = 0 ∨ d = 1) (w : World) (hG : Aside0 (TzTab w)) (hr0 : Kd.C (Kd.int .u64) w A0 l0.length l0) (hc0 : l0.length ≤ c0)
    (hl : l0.length = 2 ^ k) (hf : root_Fits.f ((l0.length : Nat) : Int) = some ((k : Int), true))
    (H0 : twid_Table.f n k 0 = some (t0, e0)) (H1 : twid_Table.f n k 1 = some (t1, e1)) (HS : twid_Share.f n k = some (s, es))
    (h : hk_stg n (if d = 0 then t0 else t1) (hk_ofs (hk_mv k l0 l0.length) l0 l0.length) k = some r)
    (h2 : (d = 0 ∧ rr = r) ∨ (d = 1 ∧ twid_Scale.f n r s = some rr ∧ rr.length = r.length)) :
    Calls Tryd.prog 11 #[.slice A0 l0.length c0, .int .i64 d] w fun e w' => ∃ v0_ : Value, e = .returned (.tuple #[v0_, .int .i64 0]) ∧ Kd.R (Kd.int .u64) 32 w' w.heap.size (fun _ => True) v0_ rr ∧ Below w.heap.size w w' := by
  have HR0 := Aside0.mk hr0
  have HC0 := Aside0.mk hc0
  have HL := Aside0.mk hl
  have HK := Aside0.mk hk
  have HF := Aside0.mk hf
  have HD := Aside0.mk hd
  have A0_ := Aside0.mk H0
  have A1 := Aside0.mk H1
  have AS := Aside0.mk HS
  have H := Aside0.mk h
  have H2 := Aside0.mk h2
  have hn : l0.length ≤ 1024 := by rw [hl]; exact Nat.pow_le_pow_right (n := 2) (by omega) hk
  have hn := Aside0.mk hn
  have d1 : decide (d < 0) = false := decide_eq_false (by omega)
  have d2 : decide (1 < d) = false := decide_eq_false (by omega)
  have d3 : decide (20 < (k : Int)) = false := decide_eq_false (by omega)
  have d4 : (20 < k) = False := eq_false (by omega)
  have d5 : decide ((k : Int) < 0) = false := decide_eq_false (by omega)
  clear hr0 hc0 hl hk hf hd H0 H1 HS h h2
  go_enter Tryd.func11, Tryd.ntmps11
  go_wp2_with (first | (go_at_call 30; (with_reducible refine (root_Fits.calls (l0.length : Int) k true _ hG HF.out).mono ?_); rintro e w1 ⟨rfl, hb1⟩; have hb1b := Aside0.mk (hk_drawn_below hb1); clear hb1) | ((with_reducible refine gate_dst (N := 28) rfl ?_); refine Kd.R_lit (Kd.int .u64) w.heap.size 32 ?hg (N := 28) ?hd (xs := ([] : List Int)) (inner := []) (ok := fun _ => True) (okp := fun _ => True) ?hr ?hp (fun _ hk => hk) trivial hb1b.out hb1b.out.size (by simp) ?_; (case hd => rfl); (case hg => rfl); (case hr => first | (go_simp; done) | (go_simp; rfl)); (case hp => exact (Reps.none _ _)); intro vq w2 ho2 hb2 hg_ hnew_; clear hg_ hnew_; have ho2 := Aside0.mk ho2; have hb2 := Aside0.mk hb2) | ((with_reducible refine gate_builtin (b := .append) (xs := #[.tmp 28, .tmp 29]) rfl ?_); at_builtin; refine Kd.R_append_rows (Kd.int .u64) (w0 := w) w.heap.size rfl (.tmp 28) (.tmp 29) 22 32 (.int .u64 0) 8 rfl Tryd.underlying22 info32 rfl (by decide) (by omega) vq [] l0 _ _ _ (fun _ => True) (fun _ => False) rfl rfl ho2.out (Kd.C_below HR0.out hb2.out) (fun _ _ h => h) (fun _ h => h.elim) (fun _ _ => trivial) hb2.out hb2.out.size ?aL ?_; (case aL => have := hn.out; simp only [List.length_nil]; omega); intro v3 w3 ho3 hb3 hg hat; rw [List.nil_append] at ho3; have ho3 := Aside0.mk ho3; have hb3 := Aside0.mk hb3; clear hg hat) | (go_at_call 22; (with_reducible refine (kern2_New.calls n k t0 t1 e0 e1 s es _ d5 d3 A0_.out A1.out AS.out).mono ?_); rintro e w4 ⟨v0, v1, rfl, hb4, hX4, hR04, hR14⟩; have C := Aside0.mk (kern2_Run.fresh n k HK.out v3 l0 t0 t1 r rr v0 v1 s d HD.out w w3 w4 hG hb3.out ho3.out hb4 hX4 hR04 hR14 HL.out HF.out H.out H2.out); clear hb4 hX4 hR04 hR14) | (go_at_call 24; (with_reducible refine (C.out).mono ?_); rintro e w5 ⟨rfl, hR5, hB5⟩; have hR5 := Aside0.mk hR5; have hB5 := Aside0.mk hB5))
  obtain ⟨A_, c_, rfl⟩ := Kd.R_slice hR5.out
  go_ret2
  exact ⟨_, rfl, hR5.out, hB5.out⟩
set_option maxHeartbeats 800000 in
set_option maxRecDepth 100000 in
theorem kern2_Transform.no (A0 : Option Addr) (c0 : Nat) (l0 : List Int) (k d : Int) (w : World) (hG : Aside0 (TzTab w)) (hf : root_Fits.f ((l0.length : Nat) : Int) = some (k, false)) :
    Calls Tryd.prog 11 #[.slice A0 l0.length c0, .int .i64 d] w fun e w' => ∃ v0_ : Value, e = .returned (.tuple #[v0_, .int .i64 4]) ∧ Kd.R (Kd.int .u64) 32 w' w.heap.size (fun _ => True) v0_ [] ∧ Below w.heap.size w w' := by
  have HF := Aside0.mk hf
  clear hf
  go_enter Tryd.func11, Tryd.ntmps11
  go_wp2_with (go_at_call 30; (with_reducible refine (root_Fits.calls (l0.length : Int) k false _ hG HF.out).mono ?_); rintro e w1 ⟨rfl, hb1⟩; have hb1b := Aside0.mk (hk_drawn_below hb1); clear hb1)
  go_ret2
  exact ⟨_, rfl, Kd.R_nil _ _ _ _ _, hb1b.out⟩
set_option maxHeartbeats 800000 in
set_option maxRecDepth 100000 in
theorem kern2_Transform.kind (A0 : Option Addr) (c0 : Nat) (l0 : List Int) (k d : Int) (w : World) (hG : Aside0 (TzTab w)) (hd : ¬ (0 ≤ d ∧ d ≤ 1)) (hf : root_Fits.f ((l0.length : Nat) : Int) = some (k, true)) :
    Calls Tryd.prog 11 #[.slice A0 l0.length c0, .int .i64 d] w fun e w' => ∃ v0_ : Value, e = .returned (.tuple #[v0_, .int .i64 18]) ∧ Kd.R (Kd.int .u64) 32 w' w.heap.size (fun _ => True) v0_ [] ∧ Below w.heap.size w w' := by
  have HF := Aside0.mk hf
  clear hf
  by_cases c : d < 0
  · have c1 : decide (d < 0) = true := decide_eq_true c
    clear c hd
    go_enter Tryd.func11, Tryd.ntmps11
    go_wp2_with (go_at_call 30; (with_reducible refine (root_Fits.calls (l0.length : Int) k true _ hG HF.out).mono ?_); rintro e w1 ⟨rfl, hb1⟩; have hb1b := Aside0.mk (hk_drawn_below hb1); clear hb1)
    go_ret2
    exact ⟨_, rfl, Kd.R_nil _ _ _ _ _, hb1b.out⟩
  · have c1 : decide (d < 0) = false := decide_eq_false c
    have c2 : decide (1 < d) = true := decide_eq_true (by omega)
    clear c hd
    go_enter Tryd.func11, Tryd.ntmps11
    go_wp2_with (go_at_call 30; (with_reducible refine (root_Fits.calls (l0.length : Int) k true _ hG HF.out).mono ?_); rintro e w1 ⟨rfl, hb1⟩; have hb1b := Aside0.mk (hk_drawn_below hb1); clear hb1)
    go_ret2
    exact ⟨_, rfl, Kd.R_nil _ _ _ _ _, hb1b.out⟩
theorem hk_stg_mono (n : Nat) (p l : List Int) : ∀ j, LeO (hk_stg n p l j) (hk_stg (n + 1) p l j)
  | 0 => LeO.refl _
  | j + 1 => LeO.bind (hk_stg_mono n p l j) (fun x => kern2_stage.mono _ _ _ _)
def kern2_Transform.g (n k : Nat) (l : List Int) (d : Int) : Option (List Int) := (twid_Table.f n k 0).bind fun p0 => (twid_Table.f n k 1).bind fun p1 => (twid_Share.f n k).bind fun q => (hk_stg n (if d = 0 then p0.1 else p1.1) (hk_ofs (hk_mv k l l.length) l l.length) k).bind fun r => if d = 0 then some r else (twid_Scale.f n r q.1).bind fun r2 => if r2.length = r.length then some r2 else none
def kern2_Transform.f (n : Nat) (l : List Int) (d : Int) : Option (List Int × Int) := (root_Fits.f (l.length : Int)).bind fun p => if p.2 = true then (if 0 ≤ d ∧ d ≤ 1 then (if 0 ≤ p.1 ∧ p.1.toNat ≤ 10 ∧ l.length = 2 ^ p.1.toNat then (kern2_Transform.g n p.1.toNat l d).bind fun r => some (r, 0) else none) else some ([], 18)) else some ([], 4)
theorem kern2_Transform.mono_g (k : Nat) (l : List Int) (d : Int) (n : Nat) : LeO (kern2_Transform.g n k l d) (kern2_Transform.g (n + 1) k l d) := by
  unfold kern2_Transform.g
  refine LeO.bind (twid_Table.mono _ _ _) (fun p0 => LeO.bind (twid_Table.mono _ _ _) (fun p1 => LeO.bind (twid_Share.mono _ _) (fun q => LeO.bind (hk_stg_mono _ _ _ _) (fun r => LeO.ite (LeO.refl _) (LeO.bind (twid_Scale.mono _ _ _) (fun r2 => LeO.refl _))))))
theorem kern2_Transform.mono : ∀ a0 a1 k, LeO (kern2_Transform.f k a0 a1) (kern2_Transform.f (k + 1) a0 a1) := by
  intro a0 a1 k
  unfold kern2_Transform.f
  exact LeO.bind (LeO.refl _) (fun p => LeO.ite (LeO.ite (LeO.ite (LeO.bind (kern2_Transform.mono_g _ _ _ _) (fun r => LeO.refl _)) (LeO.refl _)) (LeO.refl _)) (LeO.refl _))
theorem kern2_Transform.calls (k : Nat) (A0 : Option Addr) (c0 : Nat) (l0 : List Int) (a1 : Int) (r1 : List Int) (r2 : Int) (w : World) (hr0 : Kd.C (Kd.int .u64) w A0 l0.length l0) (hc0 : l0.length ≤ c0) (hG : Aside0 (TzTab w)) (h : kern2_Transform.f k l0 a1 = some (r1, r2)) :
    Calls Tryd.prog 11 #[.slice A0 l0.length c0, .int .i64 a1] w fun e w' => ∃ v0_ : Value, e = .returned (.tuple #[v0_, .int .i64 r2]) ∧ Kd.R (Kd.int .u64) 32 w' w.heap.size (fun _ => True) v0_ r1 ∧ Below w.heap.size w w' := by
  unfold kern2_Transform.f at h
  obtain ⟨⟨q, b⟩, hf, h⟩ := Option.bind_eq_some_iff.1 h
  cases b with
  | false =>
    rw [if_neg (by simp)] at h
    injection h with h
    injection h with h1 h2
    subst h1 h2
    exact kern2_Transform.no A0 c0 l0 q a1 w hG hf
  | true =>
    rw [if_pos rfl] at h
    by_cases hd : 0 ≤ a1 ∧ a1 ≤ 1
    · rw [if_pos hd] at h
      by_cases hq : 0 ≤ q ∧ q.toNat ≤ 10 ∧ l0.length = 2 ^ q.toNat
      · rw [if_pos hq] at h
        obtain ⟨h0, hk, hl⟩ := hq
        obtain ⟨rr, hg, h⟩ := Option.bind_eq_some_iff.1 h
        injection h with h
        injection h with h1 h2
        subst h1 h2
        obtain ⟨kk, rfl⟩ := Int.eq_ofNat_of_zero_le h0
        rw [Int.toNat_natCast] at hk hl hg
        unfold kern2_Transform.g at hg
        obtain ⟨⟨t0, e0⟩, hT0, hg⟩ := Option.bind_eq_some_iff.1 hg
        obtain ⟨⟨t1, e1⟩, hT1, hg⟩ := Option.bind_eq_some_iff.1 hg
        obtain ⟨⟨s, es⟩, hS, hg⟩ := Option.bind_eq_some_iff.1 hg
        obtain ⟨r, hr, hg⟩ := Option.bind_eq_some_iff.1 hg
        refine kern2_Transform.walk k kk hk A0 c0 l0 t0 t1 r rr e0 e1 s es a1 (by omega) w hG hr0 hc0 hl hf hT0 hT1 hS hr ?_
        by_cases hz : a1 = 0
        · rw [if_pos hz] at hg
          exact .inl ⟨hz, by injection hg with hg; exact hg.symm⟩
        · rw [if_neg hz] at hg
          obtain ⟨r2, hr2, hg⟩ := Option.bind_eq_some_iff.1 hg
          by_cases hle : r2.length = r.length
          · rw [if_pos hle] at hg
            injection hg with hg
            subst hg
            exact .inr ⟨by omega, hr2, hle⟩
          · rw [if_neg hle] at hg
            cases hg
      · rw [if_neg hq] at h
        cases h
    · rw [if_neg hd] at h
      injection h with h
      injection h with h1 h2
      subst h1 h2
      exact kern2_Transform.kind A0 c0 l0 q a1 w hG hd hf

/-! ### abacistlaw09_awake: function 9 -/
def abacistlaw09_awake.f (k : Nat)  : Option (Bool) := (kern2_Transform.f k (([1, 0, 0, 0] : List Int)) 0).bind fun bt181 => (if bt181.2 = 0 then (if (bt181.1.length : Int) = 4 then (if 0 < (bt181.1.length : Int) then (if (rd bt181.1 0) = 1 then (if 1 < (bt181.1.length : Int) then (if (rd bt181.1 1) = 1 then (if 2 < (bt181.1.length : Int) then (if (rd bt181.1 2) = 1 then (if 3 < (bt181.1.length : Int) then (some ((rd bt181.1 3) == 1)) else (none)) else (some false)) else (none)) else (some false)) else (none)) else (some false)) else (none)) else (some false)) else (some false))
theorem abacistlaw09_awake.mono : ∀ k, LeO (abacistlaw09_awake.f k ) (abacistlaw09_awake.f (k + 1) ) := by
  intro  k
  unfold abacistlaw09_awake.f
  repeat' first
      | (with_reducible exact kern2_Transform.mono _ _ _)
      | (with_reducible exact LeO.refl _)
      | (with_reducible exact LeO.none _)
      | (with_reducible refine LeO.ite ?_ ?_)
      | (with_reducible refine LeO.bind ?_ (fun _ => ?_))
      | exact kern2_Transform.mono _ _ _
      | exact LeO.none _
      | refine LeO.ite ?_ ?_
      | refine LeO.bind ?_ (fun _ => ?_)
set_option maxHeartbeats 8000000 in
set_option maxRecDepth 100000 in
theorem abacistlaw09_awake.calls (k : Nat)  (r : Bool) (w : World) (hG : Aside0 (TzTab w)) (h : abacistlaw09_awake.f k  = some r) :
    Calls Tryd.prog 9 #[] w fun e w' => e = .returned (.bool r) ∧ Below w.heap.size w w' := by
  have HB := Aside0.mk (Below.refl w.heap.size w)
  have H : ((kern2_Transform.f k (([1, 0, 0, 0] : List Int)) 0).bind fun bt181 => (if bt181.2 = 0 then (if (bt181.1.length : Int) = 4 then (if 0 < (bt181.1.length : Int) then (if (rd bt181.1 0) = 1 then (if 1 < (bt181.1.length : Int) then (if (rd bt181.1 1) = 1 then (if 2 < (bt181.1.length : Int) then (if (rd bt181.1 2) = 1 then (if 3 < (bt181.1.length : Int) then (some ((rd bt181.1 3) == 1)) else (none)) else (some false)) else (none)) else (some false)) else (none)) else (some false)) else (none)) else (some false)) else (some false))) = some r := h
  clear h
  obtain ⟨y178, hy178⟩ : ∃ y_ : List Int, y_ = (([1, 0, 0, 0] : List Int)) := ⟨_, rfl⟩
  replace H : ((kern2_Transform.f k y178 0).bind fun bt181 => (if bt181.2 = 0 then (if (bt181.1.length : Int) = 4 then (if 0 < (bt181.1.length : Int) then (if (rd bt181.1 0) = 1 then (if 1 < (bt181.1.length : Int) then (if (rd bt181.1 1) = 1 then (if 2 < (bt181.1.length : Int) then (if (rd bt181.1 2) = 1 then (if 3 < (bt181.1.length : Int) then (some ((rd bt181.1 3) == 1)) else (none)) else (some false)) else (none)) else (some false)) else (none)) else (some false)) else (none)) else (some false)) else (some false))) = some r := by first | (rw [hy178]; with_reducible exact H) | (have H2_ := (Option.bind_some _ _).symm.trans H; rw [hy178]; with_reducible exact H2_) | (have H2_ := (Option.bind_some _ _).symm.trans H; with_reducible exact H2_) | with_reducible exact H | (rw [hy178]; exact H) | exact H
  have Ny178 := Aside0.mk hy178
  clear hy178
  replace H := Option.bind_eq_some_iff.mp H
  obtain ⟨⟨t181, t182⟩, A10, H⟩ := H
  replace H : (if t182 = 0 then (if (t181.length : Int) = 4 then (if 0 < (t181.length : Int) then (if (rd t181 0) = 1 then (if 1 < (t181.length : Int) then (if (rd t181 1) = 1 then (if 2 < (t181.length : Int) then (if (rd t181 2) = 1 then (if 3 < (t181.length : Int) then (some ((rd t181 3) == 1)) else (none)) else (some false)) else (none)) else (some false)) else (none)) else (some false)) else (none)) else (some false)) else (some false)) = some r := H
  have A1 := Aside0.mk A10
  clear A10
  by_cases c2 : t182 = 0
  · rw [if_pos c2] at H
    have c2b0 : (t182 == 0) = true := beq_iff_eq.mpr c2
    have c2b1 : (t182 != 0) = false := bne_eq_false_iff_eq.mpr c2
    clear c2
    by_cases c3 : (t181.length : Int) = 4
    · rw [if_pos c3] at H
      have c3b0 : ((t181.length : Int) == 4) = true := beq_iff_eq.mpr c3
      have c3b1 : ((t181.length : Int) != 4) = false := bne_eq_false_iff_eq.mpr c3
      clear c3
      by_cases c4 : 0 < (t181.length : Int)
      · rw [if_pos c4] at H
        have c4b0 : decide (0 < (t181.length : Int)) = true := decide_eq_true c4
        have c4b1 : decide (0 < t181.length) = true := decide_eq_true (by omega)
        clear c4
        by_cases c5 : (rd t181 0) = 1
        · rw [if_pos c5] at H
          have c5b0 : ((rd t181 0) == 1) = true := beq_iff_eq.mpr c5
          have c5b1 : ((rd t181 0) != 1) = false := bne_eq_false_iff_eq.mpr c5
          clear c5
          by_cases c6 : 1 < (t181.length : Int)
          · rw [if_pos c6] at H
            have c6b0 : decide (1 < (t181.length : Int)) = true := decide_eq_true c6
            have c6b1 : decide (1 < t181.length) = true := decide_eq_true (by omega)
            clear c6
            by_cases c7 : (rd t181 1) = 1
            · rw [if_pos c7] at H
              have c7b0 : ((rd t181 1) == 1) = true := beq_iff_eq.mpr c7
              have c7b1 : ((rd t181 1) != 1) = false := bne_eq_false_iff_eq.mpr c7
              clear c7
              by_cases c8 : 2 < (t181.length : Int)
              · rw [if_pos c8] at H
                have c8b0 : decide (2 < (t181.length : Int)) = true := decide_eq_true c8
                have c8b1 : decide (2 < t181.length) = true := decide_eq_true (by omega)
                clear c8
                by_cases c9 : (rd t181 2) = 1
                · rw [if_pos c9] at H
                  have c9b0 : ((rd t181 2) == 1) = true := beq_iff_eq.mpr c9
                  have c9b1 : ((rd t181 2) != 1) = false := bne_eq_false_iff_eq.mpr c9
                  clear c9
                  by_cases c10 : 3 < (t181.length : Int)
                  · rw [if_pos c10] at H
                    have c10b0 : decide (3 < (t181.length : Int)) = true := decide_eq_true c10
                    have c10b1 : decide (3 < t181.length) = true := decide_eq_true (by omega)
                    clear c10
                    obtain rfl := Option.some.inj H
                    go_enter Tryd.func9, Tryd.ntmps9
                    go_wp2_with (first | ((with_reducible refine gate_dst (N := 4) rfl ?_); (try (refine gate_guard (by rfl) ?_; dsimp only)); refine Kd.R_lit (Kd.int .u64) _ 32 ?hg (N := 4) ?hd (xs := ([1, 0, 0, 0] : List Int)) (inner := [.int .u64 1, .int .u64 0, .int .u64 0, .int .u64 0]) (ok := fun _ => True) (okp := fun _ => True) ?hr ?hp (fun _ hk => hk) trivial (Below.refl _ _) (Nat.le_refl _) (by simp) ?_; (case hd => rfl); (case hg => rfl); (case hr => first | (go_simp; done) | (go_simp; rfl)); (case hp => exact (Reps.one (show Kd.M (Kd.int .u64) _ _ _ 1 [.int .u64 1] from rfl) (Reps.one (show Kd.M (Kd.int .u64) _ _ _ 0 [.int .u64 0] from rfl) (Reps.one (show Kd.M (Kd.int .u64) _ _ _ 0 [.int .u64 0] from rfl) (Reps.one (show Kd.M (Kd.int .u64) _ _ _ 0 [.int .u64 0] from rfl) (Reps.none _ _)))))); intro v179 w11 ho12 hb hg_ hnew_; clear hg_ hnew_; (first | rw [← Ny178.out] at ho12 | (simp only [Int.reduceToNat] at ho12; rw [← Ny178.out] at ho12)); have n0_ := Aside0.mk (Kd.R_lower ho12 (below_size (by repeat (first | (with_reducible first | exact HB.out | apply below_alloc | apply pw_below_drewN | apply below_drew1) | exact HB.out)))); have n1_ := Aside0.mk (below_step (by repeat (first | (with_reducible first | exact HB.out | apply below_alloc | apply pw_below_drewN | apply below_drew1) | exact HB.out)) hb); clear HB; have HO180 := n0_; have HB := n1_; clear n0_ n1_; clear hb ho12; obtain ⟨Ao13, co13, eo13⟩ := Kd.R_slice HO180.out; subst eo13) | ((with_reducible refine gate_callee (f := 11) rfl ?_); refine goesL_ (some 5) rfl rfl Tryd.func11 (by kernel_rfl) rfl #[.slice Ao13 y178.length co13, .int .i64 0] rfl (by (try simp only [List.map_toArray, List.map_cons, List.map_nil]); first | done | rfl | (simp only [List.length_drop, List.length_take]; rfl)) ?_; (with_reducible refine (kern2_Transform.calls k _ _ y178 0 t181 t182 _ ?side1 ?side2 ?sideG A1.out).mono ?_); (case sideG => first | exact hG | exact ⟨hG.out⟩ | exact ⟨hG.out.below (by repeat (first | (with_reducible first | exact HB.out | apply below_alloc | apply pw_below_drewN | apply below_drew1) | exact HB.out))⟩); (case side1 => repeat (first | exact (Kd.R_reads' HO180.out).2.2 | (with_reducible refine Kd.C_alloc ?_ _) | (with_reducible refine Kd.C_drewN ?_ _) | (with_reducible refine Kd.C_drew ?_))); (case side2 => exact (Kd.R_reads' HO180.out).2.1); rintro e w14 ⟨v183, rfl, ho0, hb⟩; refine ⟨_, rfl, ?_⟩; have n0_ := Aside0.mk (Kd.R_elder' (by (with_reducible repeat (first | apply Kd.R_alloc | apply Kd.R_drewN | apply Kd.R_drew)); exact HO180.out) (Kd.R_base ho0) hb); have n1_ := Aside0.mk (Kd.R_lower (Kd.R_new' ho0 (Kd.R_lt (by (with_reducible repeat (first | apply Kd.R_alloc | apply Kd.R_drewN | apply Kd.R_drew)); exact HO180.out))) (below_size (by repeat (first | (with_reducible first | exact HB.out | apply below_alloc | apply pw_below_drewN | apply below_drew1) | exact HB.out)))); have n2_ := Aside0.mk (below_step (by repeat (first | (with_reducible first | exact HB.out | apply below_alloc | apply pw_below_drewN | apply below_drew1) | exact HB.out)) hb); clear HO180; clear HB; have HO180 := n0_; have HO184 := n1_; have HB := n2_; clear n0_ n1_ n2_; (try clear hb); (try clear hb2); (try clear hk); (try clear hi); (try clear ho0); obtain ⟨Ao15, co15, eo15⟩ := Kd.R_slice HO184.out; subst eo15; have p185 : 0 ≤ (0 : Int) := (by omega); have q185 : 0 < (t181.length : Int) := of_decide_eq_true (by first | (with_reducible assumption) | assumption); obtain ⟨ad185, e185, hx185_0⟩ := Kd.at_int (Kd.R_reads' HO184.out).2.2 0 p185 q185; cases e185; have qi185 : (0 < t181.length) = True := eq_true (by omega); (try rw [show ((0 : Int)).toNat = 0 from rfl] at hx185_0); (try rw [Addr.add_zero'] at hx185_0); replace p185 := eq_true p185; replace q185 := eq_true q185; have p186 : 0 ≤ (1 : Int) := (by omega); have q186 : 1 < (t181.length : Int) := of_decide_eq_true (by first | (with_reducible assumption) | assumption); obtain ⟨ad186, e186, hx186_0⟩ := Kd.at_int (Kd.R_reads' HO184.out).2.2 1 p186 q186; obtain rfl : ad185 = ad186 := (by injection e186); (try simp only [show (1 : Int).toNat = 1 from rfl, Nat.reduceMul, Nat.reduceEqDiff, Go.Addr.add, ↓reduceIte] at hx186_0); have qi186 : (1 < t181.length) = True := eq_true (by omega); (try rw [show ((1 : Int)).toNat = 1 from rfl] at hx186_0); replace p186 := eq_true p186; replace q186 := eq_true q186; have p187 : 0 ≤ (2 : Int) := (by omega); have q187 : 2 < (t181.length : Int) := of_decide_eq_true (by first | (with_reducible assumption) | assumption); obtain ⟨ad187, e187, hx187_0⟩ := Kd.at_int (Kd.R_reads' HO184.out).2.2 2 p187 q187; obtain rfl : ad185 = ad187 := (by injection e187); (try simp only [show (2 : Int).toNat = 2 from rfl, Nat.reduceMul, Nat.reduceEqDiff, Go.Addr.add, ↓reduceIte] at hx187_0); have qi187 : (2 < t181.length) = True := eq_true (by omega); (try rw [show ((2 : Int)).toNat = 2 from rfl] at hx187_0); replace p187 := eq_true p187; replace q187 := eq_true q187; have p188 : 0 ≤ (3 : Int) := (by omega); have q188 : 3 < (t181.length : Int) := of_decide_eq_true (by first | (with_reducible assumption) | assumption); obtain ⟨ad188, e188, hx188_0⟩ := Kd.at_int (Kd.R_reads' HO184.out).2.2 3 p188 q188; obtain rfl : ad185 = ad188 := (by injection e188); (try simp only [show (3 : Int).toNat = 3 from rfl, Nat.reduceMul, Nat.reduceEqDiff, Go.Addr.add, ↓reduceIte] at hx188_0); have qi188 : (3 < t181.length) = True := eq_true (by omega); (try rw [show ((3 : Int)).toNat = 3 from rfl] at hx188_0); replace p188 := eq_true p188; replace q188 := eq_true q188))
                    go_ret
                    exact ⟨by first | rfl | (simp [errW_none, errW_some] <;> rfl) | (simp [*, errW_none, errW_some] <;> rfl), by repeat (first | (with_reducible first | exact HB.out | apply below_alloc | apply pw_below_drewN | apply below_drew1) | exact HB.out)⟩
                  · rw [if_neg c10] at H
                    exact absurd H (by simp)
                · rw [if_neg c9] at H
                  have c9b0 : ((rd t181 2) == 1) = false := beq_eq_false_iff_ne.mpr c9
                  have c9b1 : ((rd t181 2) != 1) = true := bne_iff_ne.mpr c9
                  obtain rfl := Option.some.inj H
                  go_enter Tryd.func9, Tryd.ntmps9
                  go_wp2_with (first | ((with_reducible refine gate_dst (N := 4) rfl ?_); (try (refine gate_guard (by rfl) ?_; dsimp only)); refine Kd.R_lit (Kd.int .u64) _ 32 ?hg (N := 4) ?hd (xs := ([1, 0, 0, 0] : List Int)) (inner := [.int .u64 1, .int .u64 0, .int .u64 0, .int .u64 0]) (ok := fun _ => True) (okp := fun _ => True) ?hr ?hp (fun _ hk => hk) trivial (Below.refl _ _) (Nat.le_refl _) (by simp) ?_; (case hd => rfl); (case hg => rfl); (case hr => first | (go_simp; done) | (go_simp; rfl)); (case hp => exact (Reps.one (show Kd.M (Kd.int .u64) _ _ _ 1 [.int .u64 1] from rfl) (Reps.one (show Kd.M (Kd.int .u64) _ _ _ 0 [.int .u64 0] from rfl) (Reps.one (show Kd.M (Kd.int .u64) _ _ _ 0 [.int .u64 0] from rfl) (Reps.one (show Kd.M (Kd.int .u64) _ _ _ 0 [.int .u64 0] from rfl) (Reps.none _ _)))))); intro v179 w16 ho17 hb hg_ hnew_; clear hg_ hnew_; (first | rw [← Ny178.out] at ho17 | (simp only [Int.reduceToNat] at ho17; rw [← Ny178.out] at ho17)); have n0_ := Aside0.mk (Kd.R_lower ho17 (below_size (by repeat (first | (with_reducible first | exact HB.out | apply below_alloc | apply pw_below_drewN | apply below_drew1) | exact HB.out)))); have n1_ := Aside0.mk (below_step (by repeat (first | (with_reducible first | exact HB.out | apply below_alloc | apply pw_below_drewN | apply below_drew1) | exact HB.out)) hb); clear HB; have HO180 := n0_; have HB := n1_; clear n0_ n1_; clear hb ho17; obtain ⟨Ao18, co18, eo18⟩ := Kd.R_slice HO180.out; subst eo18) | ((with_reducible refine gate_callee (f := 11) rfl ?_); refine goesL_ (some 5) rfl rfl Tryd.func11 (by kernel_rfl) rfl #[.slice Ao18 y178.length co18, .int .i64 0] rfl (by (try simp only [List.map_toArray, List.map_cons, List.map_nil]); first | done | rfl | (simp only [List.length_drop, List.length_take]; rfl)) ?_; (with_reducible refine (kern2_Transform.calls k _ _ y178 0 t181 t182 _ ?side1 ?side2 ?sideG A1.out).mono ?_); (case sideG => first | exact hG | exact ⟨hG.out⟩ | exact ⟨hG.out.below (by repeat (first | (with_reducible first | exact HB.out | apply below_alloc | apply pw_below_drewN | apply below_drew1) | exact HB.out))⟩); (case side1 => repeat (first | exact (Kd.R_reads' HO180.out).2.2 | (with_reducible refine Kd.C_alloc ?_ _) | (with_reducible refine Kd.C_drewN ?_ _) | (with_reducible refine Kd.C_drew ?_))); (case side2 => exact (Kd.R_reads' HO180.out).2.1); rintro e w19 ⟨v183, rfl, ho0, hb⟩; refine ⟨_, rfl, ?_⟩; have n0_ := Aside0.mk (Kd.R_elder' (by (with_reducible repeat (first | apply Kd.R_alloc | apply Kd.R_drewN | apply Kd.R_drew)); exact HO180.out) (Kd.R_base ho0) hb); have n1_ := Aside0.mk (Kd.R_lower (Kd.R_new' ho0 (Kd.R_lt (by (with_reducible repeat (first | apply Kd.R_alloc | apply Kd.R_drewN | apply Kd.R_drew)); exact HO180.out))) (below_size (by repeat (first | (with_reducible first | exact HB.out | apply below_alloc | apply pw_below_drewN | apply below_drew1) | exact HB.out)))); have n2_ := Aside0.mk (below_step (by repeat (first | (with_reducible first | exact HB.out | apply below_alloc | apply pw_below_drewN | apply below_drew1) | exact HB.out)) hb); clear HO180; clear HB; have HO180 := n0_; have HO184 := n1_; have HB := n2_; clear n0_ n1_ n2_; (try clear hb); (try clear hb2); (try clear hk); (try clear hi); (try clear ho0); obtain ⟨Ao20, co20, eo20⟩ := Kd.R_slice HO184.out; subst eo20; have p185 : 0 ≤ (0 : Int) := (by omega); have q185 : 0 < (t181.length : Int) := of_decide_eq_true (by first | (with_reducible assumption) | assumption); obtain ⟨ad185, e185, hx185_0⟩ := Kd.at_int (Kd.R_reads' HO184.out).2.2 0 p185 q185; cases e185; have qi185 : (0 < t181.length) = True := eq_true (by omega); (try rw [show ((0 : Int)).toNat = 0 from rfl] at hx185_0); (try rw [Addr.add_zero'] at hx185_0); replace p185 := eq_true p185; replace q185 := eq_true q185; have p186 : 0 ≤ (1 : Int) := (by omega); have q186 : 1 < (t181.length : Int) := of_decide_eq_true (by first | (with_reducible assumption) | assumption); obtain ⟨ad186, e186, hx186_0⟩ := Kd.at_int (Kd.R_reads' HO184.out).2.2 1 p186 q186; obtain rfl : ad185 = ad186 := (by injection e186); (try simp only [show (1 : Int).toNat = 1 from rfl, Nat.reduceMul, Nat.reduceEqDiff, Go.Addr.add, ↓reduceIte] at hx186_0); have qi186 : (1 < t181.length) = True := eq_true (by omega); (try rw [show ((1 : Int)).toNat = 1 from rfl] at hx186_0); replace p186 := eq_true p186; replace q186 := eq_true q186; have p187 : 0 ≤ (2 : Int) := (by omega); have q187 : 2 < (t181.length : Int) := of_decide_eq_true (by first | (with_reducible assumption) | assumption); obtain ⟨ad187, e187, hx187_0⟩ := Kd.at_int (Kd.R_reads' HO184.out).2.2 2 p187 q187; obtain rfl : ad185 = ad187 := (by injection e187); (try simp only [show (2 : Int).toNat = 2 from rfl, Nat.reduceMul, Nat.reduceEqDiff, Go.Addr.add, ↓reduceIte] at hx187_0); have qi187 : (2 < t181.length) = True := eq_true (by omega); (try rw [show ((2 : Int)).toNat = 2 from rfl] at hx187_0); replace p187 := eq_true p187; replace q187 := eq_true q187))
                  go_ret
                  exact ⟨by first | rfl | (simp [errW_none, errW_some] <;> rfl) | (simp [*, errW_none, errW_some] <;> rfl), by repeat (first | (with_reducible first | exact HB.out | apply below_alloc | apply pw_below_drewN | apply below_drew1) | exact HB.out)⟩
              · rw [if_neg c8] at H
                exact absurd H (by simp)
            · rw [if_neg c7] at H
              have c7b0 : ((rd t181 1) == 1) = false := beq_eq_false_iff_ne.mpr c7
              have c7b1 : ((rd t181 1) != 1) = true := bne_iff_ne.mpr c7
              obtain rfl := Option.some.inj H
              go_enter Tryd.func9, Tryd.ntmps9
              go_wp2_with (first | ((with_reducible refine gate_dst (N := 4) rfl ?_); (try (refine gate_guard (by rfl) ?_; dsimp only)); refine Kd.R_lit (Kd.int .u64) _ 32 ?hg (N := 4) ?hd (xs := ([1, 0, 0, 0] : List Int)) (inner := [.int .u64 1, .int .u64 0, .int .u64 0, .int .u64 0]) (ok := fun _ => True) (okp := fun _ => True) ?hr ?hp (fun _ hk => hk) trivial (Below.refl _ _) (Nat.le_refl _) (by simp) ?_; (case hd => rfl); (case hg => rfl); (case hr => first | (go_simp; done) | (go_simp; rfl)); (case hp => exact (Reps.one (show Kd.M (Kd.int .u64) _ _ _ 1 [.int .u64 1] from rfl) (Reps.one (show Kd.M (Kd.int .u64) _ _ _ 0 [.int .u64 0] from rfl) (Reps.one (show Kd.M (Kd.int .u64) _ _ _ 0 [.int .u64 0] from rfl) (Reps.one (show Kd.M (Kd.int .u64) _ _ _ 0 [.int .u64 0] from rfl) (Reps.none _ _)))))); intro v179 w21 ho22 hb hg_ hnew_; clear hg_ hnew_; (first | rw [← Ny178.out] at ho22 | (simp only [Int.reduceToNat] at ho22; rw [← Ny178.out] at ho22)); have n0_ := Aside0.mk (Kd.R_lower ho22 (below_size (by repeat (first | (with_reducible first | exact HB.out | apply below_alloc | apply pw_below_drewN | apply below_drew1) | exact HB.out)))); have n1_ := Aside0.mk (below_step (by repeat (first | (with_reducible first | exact HB.out | apply below_alloc | apply pw_below_drewN | apply below_drew1) | exact HB.out)) hb); clear HB; have HO180 := n0_; have HB := n1_; clear n0_ n1_; clear hb ho22; obtain ⟨Ao23, co23, eo23⟩ := Kd.R_slice HO180.out; subst eo23) | ((with_reducible refine gate_callee (f := 11) rfl ?_); refine goesL_ (some 5) rfl rfl Tryd.func11 (by kernel_rfl) rfl #[.slice Ao23 y178.length co23, .int .i64 0] rfl (by (try simp only [List.map_toArray, List.map_cons, List.map_nil]); first | done | rfl | (simp only [List.length_drop, List.length_take]; rfl)) ?_; (with_reducible refine (kern2_Transform.calls k _ _ y178 0 t181 t182 _ ?side1 ?side2 ?sideG A1.out).mono ?_); (case sideG => first | exact hG | exact ⟨hG.out⟩ | exact ⟨hG.out.below (by repeat (first | (with_reducible first | exact HB.out | apply below_alloc | apply pw_below_drewN | apply below_drew1) | exact HB.out))⟩); (case side1 => repeat (first | exact (Kd.R_reads' HO180.out).2.2 | (with_reducible refine Kd.C_alloc ?_ _) | (with_reducible refine Kd.C_drewN ?_ _) | (with_reducible refine Kd.C_drew ?_))); (case side2 => exact (Kd.R_reads' HO180.out).2.1); rintro e w24 ⟨v183, rfl, ho0, hb⟩; refine ⟨_, rfl, ?_⟩; have n0_ := Aside0.mk (Kd.R_elder' (by (with_reducible repeat (first | apply Kd.R_alloc | apply Kd.R_drewN | apply Kd.R_drew)); exact HO180.out) (Kd.R_base ho0) hb); have n1_ := Aside0.mk (Kd.R_lower (Kd.R_new' ho0 (Kd.R_lt (by (with_reducible repeat (first | apply Kd.R_alloc | apply Kd.R_drewN | apply Kd.R_drew)); exact HO180.out))) (below_size (by repeat (first | (with_reducible first | exact HB.out | apply below_alloc | apply pw_below_drewN | apply below_drew1) | exact HB.out)))); have n2_ := Aside0.mk (below_step (by repeat (first | (with_reducible first | exact HB.out | apply below_alloc | apply pw_below_drewN | apply below_drew1) | exact HB.out)) hb); clear HO180; clear HB; have HO180 := n0_; have HO184 := n1_; have HB := n2_; clear n0_ n1_ n2_; (try clear hb); (try clear hb2); (try clear hk); (try clear hi); (try clear ho0); obtain ⟨Ao25, co25, eo25⟩ := Kd.R_slice HO184.out; subst eo25; have p185 : 0 ≤ (0 : Int) := (by omega); have q185 : 0 < (t181.length : Int) := of_decide_eq_true (by first | (with_reducible assumption) | assumption); obtain ⟨ad185, e185, hx185_0⟩ := Kd.at_int (Kd.R_reads' HO184.out).2.2 0 p185 q185; cases e185; have qi185 : (0 < t181.length) = True := eq_true (by omega); (try rw [show ((0 : Int)).toNat = 0 from rfl] at hx185_0); (try rw [Addr.add_zero'] at hx185_0); replace p185 := eq_true p185; replace q185 := eq_true q185; have p186 : 0 ≤ (1 : Int) := (by omega); have q186 : 1 < (t181.length : Int) := of_decide_eq_true (by first | (with_reducible assumption) | assumption); obtain ⟨ad186, e186, hx186_0⟩ := Kd.at_int (Kd.R_reads' HO184.out).2.2 1 p186 q186; obtain rfl : ad185 = ad186 := (by injection e186); (try simp only [show (1 : Int).toNat = 1 from rfl, Nat.reduceMul, Nat.reduceEqDiff, Go.Addr.add, ↓reduceIte] at hx186_0); have qi186 : (1 < t181.length) = True := eq_true (by omega); (try rw [show ((1 : Int)).toNat = 1 from rfl] at hx186_0); replace p186 := eq_true p186; replace q186 := eq_true q186))
              go_ret
              exact ⟨by first | rfl | (simp [errW_none, errW_some] <;> rfl) | (simp [*, errW_none, errW_some] <;> rfl), by repeat (first | (with_reducible first | exact HB.out | apply below_alloc | apply pw_below_drewN | apply below_drew1) | exact HB.out)⟩
          · rw [if_neg c6] at H
            exact absurd H (by simp)
        · rw [if_neg c5] at H
          have c5b0 : ((rd t181 0) == 1) = false := beq_eq_false_iff_ne.mpr c5
          have c5b1 : ((rd t181 0) != 1) = true := bne_iff_ne.mpr c5
          obtain rfl := Option.some.inj H
          go_enter Tryd.func9, Tryd.ntmps9
          go_wp2_with (first | ((with_reducible refine gate_dst (N := 4) rfl ?_); (try (refine gate_guard (by rfl) ?_; dsimp only)); refine Kd.R_lit (Kd.int .u64) _ 32 ?hg (N := 4) ?hd (xs := ([1, 0, 0, 0] : List Int)) (inner := [.int .u64 1, .int .u64 0, .int .u64 0, .int .u64 0]) (ok := fun _ => True) (okp := fun _ => True) ?hr ?hp (fun _ hk => hk) trivial (Below.refl _ _) (Nat.le_refl _) (by simp) ?_; (case hd => rfl); (case hg => rfl); (case hr => first | (go_simp; done) | (go_simp; rfl)); (case hp => exact (Reps.one (show Kd.M (Kd.int .u64) _ _ _ 1 [.int .u64 1] from rfl) (Reps.one (show Kd.M (Kd.int .u64) _ _ _ 0 [.int .u64 0] from rfl) (Reps.one (show Kd.M (Kd.int .u64) _ _ _ 0 [.int .u64 0] from rfl) (Reps.one (show Kd.M (Kd.int .u64) _ _ _ 0 [.int .u64 0] from rfl) (Reps.none _ _)))))); intro v179 w26 ho27 hb hg_ hnew_; clear hg_ hnew_; (first | rw [← Ny178.out] at ho27 | (simp only [Int.reduceToNat] at ho27; rw [← Ny178.out] at ho27)); have n0_ := Aside0.mk (Kd.R_lower ho27 (below_size (by repeat (first | (with_reducible first | exact HB.out | apply below_alloc | apply pw_below_drewN | apply below_drew1) | exact HB.out)))); have n1_ := Aside0.mk (below_step (by repeat (first | (with_reducible first | exact HB.out | apply below_alloc | apply pw_below_drewN | apply below_drew1) | exact HB.out)) hb); clear HB; have HO180 := n0_; have HB := n1_; clear n0_ n1_; clear hb ho27; obtain ⟨Ao28, co28, eo28⟩ := Kd.R_slice HO180.out; subst eo28) | ((with_reducible refine gate_callee (f := 11) rfl ?_); refine goesL_ (some 5) rfl rfl Tryd.func11 (by kernel_rfl) rfl #[.slice Ao28 y178.length co28, .int .i64 0] rfl (by (try simp only [List.map_toArray, List.map_cons, List.map_nil]); first | done | rfl | (simp only [List.length_drop, List.length_take]; rfl)) ?_; (with_reducible refine (kern2_Transform.calls k _ _ y178 0 t181 t182 _ ?side1 ?side2 ?sideG A1.out).mono ?_); (case sideG => first | exact hG | exact ⟨hG.out⟩ | exact ⟨hG.out.below (by repeat (first | (with_reducible first | exact HB.out | apply below_alloc | apply pw_below_drewN | apply below_drew1) | exact HB.out))⟩); (case side1 => repeat (first | exact (Kd.R_reads' HO180.out).2.2 | (with_reducible refine Kd.C_alloc ?_ _) | (with_reducible refine Kd.C_drewN ?_ _) | (with_reducible refine Kd.C_drew ?_))); (case side2 => exact (Kd.R_reads' HO180.out).2.1); rintro e w29 ⟨v183, rfl, ho0, hb⟩; refine ⟨_, rfl, ?_⟩; have n0_ := Aside0.mk (Kd.R_elder' (by (with_reducible repeat (first | apply Kd.R_alloc | apply Kd.R_drewN | apply Kd.R_drew)); exact HO180.out) (Kd.R_base ho0) hb); have n1_ := Aside0.mk (Kd.R_lower (Kd.R_new' ho0 (Kd.R_lt (by (with_reducible repeat (first | apply Kd.R_alloc | apply Kd.R_drewN | apply Kd.R_drew)); exact HO180.out))) (below_size (by repeat (first | (with_reducible first | exact HB.out | apply below_alloc | apply pw_below_drewN | apply below_drew1) | exact HB.out)))); have n2_ := Aside0.mk (below_step (by repeat (first | (with_reducible first | exact HB.out | apply below_alloc | apply pw_below_drewN | apply below_drew1) | exact HB.out)) hb); clear HO180; clear HB; have HO180 := n0_; have HO184 := n1_; have HB := n2_; clear n0_ n1_ n2_; (try clear hb); (try clear hb2); (try clear hk); (try clear hi); (try clear ho0); obtain ⟨Ao30, co30, eo30⟩ := Kd.R_slice HO184.out; subst eo30; have p185 : 0 ≤ (0 : Int) := (by omega); have q185 : 0 < (t181.length : Int) := of_decide_eq_true (by first | (with_reducible assumption) | assumption); obtain ⟨ad185, e185, hx185_0⟩ := Kd.at_int (Kd.R_reads' HO184.out).2.2 0 p185 q185; cases e185; have qi185 : (0 < t181.length) = True := eq_true (by omega); (try rw [show ((0 : Int)).toNat = 0 from rfl] at hx185_0); (try rw [Addr.add_zero'] at hx185_0); replace p185 := eq_true p185; replace q185 := eq_true q185))
          go_ret
          exact ⟨by first | rfl | (simp [errW_none, errW_some] <;> rfl) | (simp [*, errW_none, errW_some] <;> rfl), by repeat (first | (with_reducible first | exact HB.out | apply below_alloc | apply pw_below_drewN | apply below_drew1) | exact HB.out)⟩
      · rw [if_neg c4] at H
        exact absurd H (by simp)
    · rw [if_neg c3] at H
      have c3b0 : ((t181.length : Int) == 4) = false := beq_eq_false_iff_ne.mpr c3
      have c3b1 : ((t181.length : Int) != 4) = true := bne_iff_ne.mpr c3
      obtain rfl := Option.some.inj H
      go_enter Tryd.func9, Tryd.ntmps9
      go_wp2_with (first | ((with_reducible refine gate_dst (N := 4) rfl ?_); (try (refine gate_guard (by rfl) ?_; dsimp only)); refine Kd.R_lit (Kd.int .u64) _ 32 ?hg (N := 4) ?hd (xs := ([1, 0, 0, 0] : List Int)) (inner := [.int .u64 1, .int .u64 0, .int .u64 0, .int .u64 0]) (ok := fun _ => True) (okp := fun _ => True) ?hr ?hp (fun _ hk => hk) trivial (Below.refl _ _) (Nat.le_refl _) (by simp) ?_; (case hd => rfl); (case hg => rfl); (case hr => first | (go_simp; done) | (go_simp; rfl)); (case hp => exact (Reps.one (show Kd.M (Kd.int .u64) _ _ _ 1 [.int .u64 1] from rfl) (Reps.one (show Kd.M (Kd.int .u64) _ _ _ 0 [.int .u64 0] from rfl) (Reps.one (show Kd.M (Kd.int .u64) _ _ _ 0 [.int .u64 0] from rfl) (Reps.one (show Kd.M (Kd.int .u64) _ _ _ 0 [.int .u64 0] from rfl) (Reps.none _ _)))))); intro v179 w31 ho32 hb hg_ hnew_; clear hg_ hnew_; (first | rw [← Ny178.out] at ho32 | (simp only [Int.reduceToNat] at ho32; rw [← Ny178.out] at ho32)); have n0_ := Aside0.mk (Kd.R_lower ho32 (below_size (by repeat (first | (with_reducible first | exact HB.out | apply below_alloc | apply pw_below_drewN | apply below_drew1) | exact HB.out)))); have n1_ := Aside0.mk (below_step (by repeat (first | (with_reducible first | exact HB.out | apply below_alloc | apply pw_below_drewN | apply below_drew1) | exact HB.out)) hb); clear HB; have HO180 := n0_; have HB := n1_; clear n0_ n1_; clear hb ho32; obtain ⟨Ao33, co33, eo33⟩ := Kd.R_slice HO180.out; subst eo33) | ((with_reducible refine gate_callee (f := 11) rfl ?_); refine goesL_ (some 5) rfl rfl Tryd.func11 (by kernel_rfl) rfl #[.slice Ao33 y178.length co33, .int .i64 0] rfl (by (try simp only [List.map_toArray, List.map_cons, List.map_nil]); first | done | rfl | (simp only [List.length_drop, List.length_take]; rfl)) ?_; (with_reducible refine (kern2_Transform.calls k _ _ y178 0 t181 t182 _ ?side1 ?side2 ?sideG A1.out).mono ?_); (case sideG => first | exact hG | exact ⟨hG.out⟩ | exact ⟨hG.out.below (by repeat (first | (with_reducible first | exact HB.out | apply below_alloc | apply pw_below_drewN | apply below_drew1) | exact HB.out))⟩); (case side1 => repeat (first | exact (Kd.R_reads' HO180.out).2.2 | (with_reducible refine Kd.C_alloc ?_ _) | (with_reducible refine Kd.C_drewN ?_ _) | (with_reducible refine Kd.C_drew ?_))); (case side2 => exact (Kd.R_reads' HO180.out).2.1); rintro e w34 ⟨v183, rfl, ho0, hb⟩; refine ⟨_, rfl, ?_⟩; have n0_ := Aside0.mk (Kd.R_elder' (by (with_reducible repeat (first | apply Kd.R_alloc | apply Kd.R_drewN | apply Kd.R_drew)); exact HO180.out) (Kd.R_base ho0) hb); have n1_ := Aside0.mk (Kd.R_lower (Kd.R_new' ho0 (Kd.R_lt (by (with_reducible repeat (first | apply Kd.R_alloc | apply Kd.R_drewN | apply Kd.R_drew)); exact HO180.out))) (below_size (by repeat (first | (with_reducible first | exact HB.out | apply below_alloc | apply pw_below_drewN | apply below_drew1) | exact HB.out)))); have n2_ := Aside0.mk (below_step (by repeat (first | (with_reducible first | exact HB.out | apply below_alloc | apply pw_below_drewN | apply below_drew1) | exact HB.out)) hb); clear HO180; clear HB; have HO180 := n0_; have HO184 := n1_; have HB := n2_; clear n0_ n1_ n2_; (try clear hb); (try clear hb2); (try clear hk); (try clear hi); (try clear ho0); obtain ⟨Ao35, co35, eo35⟩ := Kd.R_slice HO184.out; subst eo35))
      go_ret
      exact ⟨by first | rfl | (simp [errW_none, errW_some] <;> rfl) | (simp [*, errW_none, errW_some] <;> rfl), by repeat (first | (with_reducible first | exact HB.out | apply below_alloc | apply pw_below_drewN | apply below_drew1) | exact HB.out)⟩
  · rw [if_neg c2] at H
    have c2b0 : (t182 == 0) = false := beq_eq_false_iff_ne.mpr c2
    have c2b1 : (t182 != 0) = true := bne_iff_ne.mpr c2
    obtain rfl := Option.some.inj H
    go_enter Tryd.func9, Tryd.ntmps9
    go_wp2_with (first | ((with_reducible refine gate_dst (N := 4) rfl ?_); (try (refine gate_guard (by rfl) ?_; dsimp only)); refine Kd.R_lit (Kd.int .u64) _ 32 ?hg (N := 4) ?hd (xs := ([1, 0, 0, 0] : List Int)) (inner := [.int .u64 1, .int .u64 0, .int .u64 0, .int .u64 0]) (ok := fun _ => True) (okp := fun _ => True) ?hr ?hp (fun _ hk => hk) trivial (Below.refl _ _) (Nat.le_refl _) (by simp) ?_; (case hd => rfl); (case hg => rfl); (case hr => first | (go_simp; done) | (go_simp; rfl)); (case hp => exact (Reps.one (show Kd.M (Kd.int .u64) _ _ _ 1 [.int .u64 1] from rfl) (Reps.one (show Kd.M (Kd.int .u64) _ _ _ 0 [.int .u64 0] from rfl) (Reps.one (show Kd.M (Kd.int .u64) _ _ _ 0 [.int .u64 0] from rfl) (Reps.one (show Kd.M (Kd.int .u64) _ _ _ 0 [.int .u64 0] from rfl) (Reps.none _ _)))))); intro v179 w36 ho37 hb hg_ hnew_; clear hg_ hnew_; (first | rw [← Ny178.out] at ho37 | (simp only [Int.reduceToNat] at ho37; rw [← Ny178.out] at ho37)); have n0_ := Aside0.mk (Kd.R_lower ho37 (below_size (by repeat (first | (with_reducible first | exact HB.out | apply below_alloc | apply pw_below_drewN | apply below_drew1) | exact HB.out)))); have n1_ := Aside0.mk (below_step (by repeat (first | (with_reducible first | exact HB.out | apply below_alloc | apply pw_below_drewN | apply below_drew1) | exact HB.out)) hb); clear HB; have HO180 := n0_; have HB := n1_; clear n0_ n1_; clear hb ho37; obtain ⟨Ao38, co38, eo38⟩ := Kd.R_slice HO180.out; subst eo38) | ((with_reducible refine gate_callee (f := 11) rfl ?_); refine goesL_ (some 5) rfl rfl Tryd.func11 (by kernel_rfl) rfl #[.slice Ao38 y178.length co38, .int .i64 0] rfl (by (try simp only [List.map_toArray, List.map_cons, List.map_nil]); first | done | rfl | (simp only [List.length_drop, List.length_take]; rfl)) ?_; (with_reducible refine (kern2_Transform.calls k _ _ y178 0 t181 t182 _ ?side1 ?side2 ?sideG A1.out).mono ?_); (case sideG => first | exact hG | exact ⟨hG.out⟩ | exact ⟨hG.out.below (by repeat (first | (with_reducible first | exact HB.out | apply below_alloc | apply pw_below_drewN | apply below_drew1) | exact HB.out))⟩); (case side1 => repeat (first | exact (Kd.R_reads' HO180.out).2.2 | (with_reducible refine Kd.C_alloc ?_ _) | (with_reducible refine Kd.C_drewN ?_ _) | (with_reducible refine Kd.C_drew ?_))); (case side2 => exact (Kd.R_reads' HO180.out).2.1); rintro e w39 ⟨v183, rfl, ho0, hb⟩; refine ⟨_, rfl, ?_⟩; have n0_ := Aside0.mk (Kd.R_elder' (by (with_reducible repeat (first | apply Kd.R_alloc | apply Kd.R_drewN | apply Kd.R_drew)); exact HO180.out) (Kd.R_base ho0) hb); have n1_ := Aside0.mk (Kd.R_lower (Kd.R_new' ho0 (Kd.R_lt (by (with_reducible repeat (first | apply Kd.R_alloc | apply Kd.R_drewN | apply Kd.R_drew)); exact HO180.out))) (below_size (by repeat (first | (with_reducible first | exact HB.out | apply below_alloc | apply pw_below_drewN | apply below_drew1) | exact HB.out)))); have n2_ := Aside0.mk (below_step (by repeat (first | (with_reducible first | exact HB.out | apply below_alloc | apply pw_below_drewN | apply below_drew1) | exact HB.out)) hb); clear HO180; clear HB; have HO180 := n0_; have HO184 := n1_; have HB := n2_; clear n0_ n1_ n2_; (try clear hb); (try clear hb2); (try clear hk); (try clear hi); (try clear ho0)))
    go_ret
    exact ⟨by first | rfl | (simp [errW_none, errW_some] <;> rfl) | (simp [*, errW_none, errW_some] <;> rfl), by repeat (first | (with_reducible first | exact HB.out | apply below_alloc | apply pw_below_drewN | apply below_drew1) | exact HB.out)⟩

/-! ### abacistref04_Same: function 12 -/
def abacistref04_Same.l0 : Nat → List Int → List Int → Int → Option (Bool)
  | 0, _, _, _ => none
  | k + 1, x0, x1, x5 => if x5 < (x0.length : Int) then (if 0 ≤ x5 then (if x5 < (x1.length : Int) then (if (rd x0 x5) = (rd x1 x5) then (abacistref04_Same.l0 k x0 x1 (wrap64 (x5 + 1))) else (some false)) else (none)) else (none)) else (some true)
def abacistref04_Same.f (k : Nat) (l0 : List Int) (l1 : List Int) : Option (Bool) := if (l0.length : Int) = (l1.length : Int) then (abacistref04_Same.l0 k l0 l1 0) else (some false)
theorem abacistref04_Same.mono_l : ∀ k, (∀ y0 y1 y2, LeO (abacistref04_Same.l0 k y0 y1 y2) (abacistref04_Same.l0 (k + 1) y0 y1 y2))
  | 0 => fun _ _ _ r h => by simp [abacistref04_Same.l0] at h
  | k + 1 => by
    have ih0 := abacistref04_Same.mono_l k
    · intro y0 y1 y2
      unfold abacistref04_Same.l0
      repeat' first
      | (with_reducible exact ih0 _ _ _)
      | (with_reducible exact LeO.refl _)
      | (with_reducible exact LeO.none _)
      | (with_reducible refine LeO.ite ?_ ?_)
      | (with_reducible refine LeO.bind ?_ (fun _ => ?_))
      | exact ih0 _ _ _
      | exact LeO.none _
      | refine LeO.ite ?_ ?_
      | refine LeO.bind ?_ (fun _ => ?_)
theorem abacistref04_Same.mono : ∀ a0 a1 k, LeO (abacistref04_Same.f k a0 a1) (abacistref04_Same.f (k + 1) a0 a1) := by
  intro a0 a1 k
  have ih0 := abacistref04_Same.mono_l k
  unfold abacistref04_Same.f
  repeat' first
      | (with_reducible exact ih0 _ _ _)
      | (with_reducible exact LeO.refl _)
      | (with_reducible exact LeO.none _)
      | (with_reducible refine LeO.ite ?_ ?_)
      | (with_reducible refine LeO.bind ?_ (fun _ => ?_))
      | exact ih0 _ _ _
      | exact LeO.none _
      | refine LeO.ite ?_ ?_
      | refine LeO.bind ?_ (fun _ => ?_)
set_option maxHeartbeats 8000000 in
set_option maxRecDepth 100000 in
theorem abacistref04_Same.calls (k : Nat) (A0 : Option Addr) (c0 : Nat) (l0 : List Int) (A1 : Option Addr) (c1 : Nat) (l1 : List Int) (r : Bool) (w : World) (hr0 : Kd.C (Kd.int .u64) w A0 l0.length l0) (hc0 : l0.length ≤ c0) (hr1 : Kd.C (Kd.int .u64) w A1 l1.length l1) (hc1 : l1.length ≤ c1) (h : abacistref04_Same.f k l0 l1 = some r) :
    Calls Tryd.prog 12 #[.slice A0 l0.length c0, .slice A1 l1.length c1] w fun e w' => e = .returned (.bool r) ∧ Drawn0 w w' := by
  have HR0 := Aside0.mk hr0
  have HC0 := Aside0.mk hc0
  clear hr0 hc0
  have HR1 := Aside0.mk hr1
  have HC1 := Aside0.mk hc1
  clear hr1 hc1
  have H : (if (l0.length : Int) = (l1.length : Int) then (abacistref04_Same.l0 k l0 l1 0) else (some false)) = some r := h
  clear h
  by_cases c3 : (l0.length : Int) = (l1.length : Int)
  · rw [if_pos c3] at H
    have c3b0 : ((l0.length : Int) == (l1.length : Int)) = true := beq_iff_eq.mpr c3
    have c3b1 : ((l0.length : Int) != (l1.length : Int)) = false := bne_eq_false_iff_eq.mpr c3
    have c3b2 : (l0.length == l1.length) = true := by first | simpa using c3 | (simp at c3 ⊢; omega)
    clear c3
    have H' := Aside0.mk H
    clear H
    go_enter Tryd.func12, Tryd.ntmps12
    go_wp2
    repeat (go_quiet (fail); try go_wp2)
    go_loopg [5] k (fun kq v5 w' => ∃ (x5_1 : Int), v5 = .int .i64 x5_1 ∧ Aside0 (abacistref04_Same.l0 kq l0 l1 x5_1 = some r) ∧ Aside0 (kq ≤ k) ∧ Drawn0 w w')
    case atStart => exact ⟨(0), (by first | rfl | (simp; done) | (simp [*]; done)), H', ⟨Nat.le_refl _⟩, by repeat (first | exact Drawn0.refl _ | apply Drawn0.step)⟩
    case round =>
      clear H'
      try clear c1
      try clear p2
      try clear c3
      try clear c3b0
      try clear c3b1
      try clear c3b2
      obtain ⟨x5_1, rfl, HA, HK1, ⟨m1, rfl⟩⟩ := hrel
      cases gk with
      | zero => exact absurd HA.out (by simp [abacistref04_Same.l0])
      | succ k1 =>
        have H := HA.out
        clear HA
        simp only [abacistref04_Same.l0] at H
        by_cases c4 : x5_1 < (l0.length : Int)
        · rw [if_pos c4] at H
          have c4b0 : decide (x5_1 < (l0.length : Int)) = true := decide_eq_true c4
          clear c4
          by_cases c5 : 0 ≤ x5_1
          · rw [if_pos c5] at H
            have c5b0 : decide (0 ≤ x5_1) = true := decide_eq_true c5
            clear c5
            by_cases c6 : x5_1 < (l1.length : Int)
            · rw [if_pos c6] at H
              have c6b0 : decide (x5_1 < (l1.length : Int)) = true := decide_eq_true c6
              clear c6
              by_cases c7 : (rd l0 x5_1) = (rd l1 x5_1)
              · rw [if_pos c7] at H
                have c7b0 : ((rd l0 x5_1) == (rd l1 x5_1)) = true := beq_iff_eq.mpr c7
                have c7b1 : ((rd l0 x5_1) != (rd l1 x5_1)) = false := bne_eq_false_iff_eq.mpr c7
                clear c7
                have H' := Aside0.mk H
                clear H
                have p189 : 0 ≤ (x5_1 : Int) := of_decide_eq_true (by first | (with_reducible assumption) | assumption)
                have q189 : x5_1 < (l0.length : Int) := of_decide_eq_true (by first | (with_reducible assumption) | assumption)
                obtain ⟨ad189, e189, hx189_0⟩ := Kd.at_int HR0.out x5_1 p189 q189
                cases e189
                replace p189 := eq_true p189
                replace q189 := eq_true q189
                have p190 : 0 ≤ (x5_1 : Int) := of_decide_eq_true (by first | (with_reducible assumption) | assumption)
                have q190 : x5_1 < (l1.length : Int) := of_decide_eq_true (by first | (with_reducible assumption) | assumption)
                obtain ⟨ad190, e190, hx190_0⟩ := Kd.at_int HR1.out x5_1 p190 q190
                cases e190
                replace p190 := eq_true p190
                replace q190 := eq_true q190
                go_wp2
                repeat (go_quiet (fail); try go_wp2)
                (first | go_roundg k1 | (simp only [add_plain] at *; go_roundg k1))
                case measure => have := HK1.out; omega
                case rel => exact ⟨(wrap64 (x5_1 + 1)), (by first | rfl | (simp; done) | (simp [*]; done)), H', ⟨by have := HK1.out; omega⟩, by repeat (first | exact Drawn0.refl _ | apply Drawn0.step)⟩
              · rw [if_neg c7] at H
                have c7b0 : ((rd l0 x5_1) == (rd l1 x5_1)) = false := beq_eq_false_iff_ne.mpr c7
                have c7b1 : ((rd l0 x5_1) != (rd l1 x5_1)) = true := bne_iff_ne.mpr c7
                obtain rfl := Option.some.inj H
                have p189 : 0 ≤ (x5_1 : Int) := of_decide_eq_true (by first | (with_reducible assumption) | assumption)
                have q189 : x5_1 < (l0.length : Int) := of_decide_eq_true (by first | (with_reducible assumption) | assumption)
                obtain ⟨ad189, e189, hx189_0⟩ := Kd.at_int HR0.out x5_1 p189 q189
                cases e189
                replace p189 := eq_true p189
                replace q189 := eq_true q189
                have p190 : 0 ≤ (x5_1 : Int) := of_decide_eq_true (by first | (with_reducible assumption) | assumption)
                have q190 : x5_1 < (l1.length : Int) := of_decide_eq_true (by first | (with_reducible assumption) | assumption)
                obtain ⟨ad190, e190, hx190_0⟩ := Kd.at_int HR1.out x5_1 p190 q190
                cases e190
                replace p190 := eq_true p190
                replace q190 := eq_true q190
                go_wp2
                repeat (go_quiet (fail); try go_wp2)
                go_ret
                exact ⟨by first | rfl | (simp; done) | (simp [*]; done), by repeat (first | exact Drawn0.refl _ | apply Drawn0.step)⟩
            · rw [if_neg c6] at H
              exact absurd H (by simp)
          · rw [if_neg c5] at H
            exact absurd H (by simp)
        · rw [if_neg c4] at H
          have c4b0 : decide (x5_1 < (l0.length : Int)) = false := decide_eq_false c4
          clear c4
          obtain rfl := Option.some.inj H
          go_wp2
          repeat (go_quiet (fail); try go_wp2)
          go_ret
          exact ⟨by first | rfl | (simp; done) | (simp [*]; done), by repeat (first | exact Drawn0.refl _ | apply Drawn0.step)⟩
  · rw [if_neg c3] at H
    have c3b0 : ((l0.length : Int) == (l1.length : Int)) = false := beq_eq_false_iff_ne.mpr c3
    have c3b1 : ((l0.length : Int) != (l1.length : Int)) = true := bne_iff_ne.mpr c3
    have c3b2 : (l0.length == l1.length) = false := by first | simpa using c3 | (simp at c3 ⊢; omega)
    obtain rfl := Option.some.inj H
    go_enter Tryd.func12, Tryd.ntmps12
    go_wp2
    repeat (go_quiet (fail); try go_wp2)
    go_ret
    exact ⟨by first | rfl | (simp; done) | (simp [*]; done), by repeat (first | exact Drawn0.refl _ | apply Drawn0.step)⟩

/-! ### abacistref02_Of: function 33 -/
def abacistref02_Of.f (a0 : Int) : Option (Int) := some (Int.tmod a0 18446744069414584321)
set_option maxHeartbeats 8000000 in
set_option maxRecDepth 100000 in
theorem abacistref02_Of.calls (a0 : Int) (r : Int) (w : World) (h : abacistref02_Of.f a0 = some r) :
    Calls Tryd.prog 33 #[.int .u64 a0] w fun e w' => e = .returned (.int .u64 r) ∧ Drawn0 w w' := by
  have H : (some (Int.tmod a0 18446744069414584321)) = some r := h
  clear h
  obtain rfl := Option.some.inj H
  go_enter Tryd.func33, Tryd.ntmps33
  go_wp2
  go_ret
  exact ⟨by first | rfl | (simp; done) | (simp [*]; done), by repeat (first | exact Drawn0.refl _ | apply Drawn0.step)⟩

/-! ### abacistref02_Add: function 15 -/
def abacistref02_Add.f (a0 : Int) (a1 : Int) : Option (Int) := (abacistref02_Of.f a0).bind fun t191 => ((abacistref02_Of.f a1).bind fun t192 => (if t191 ≥ (IntKind.u64.wrap (18446744069414584321 - t192)) then (some (IntKind.u64.wrap (t191 - (IntKind.u64.wrap (18446744069414584321 - t192))))) else (some (IntKind.u64.wrap (t191 + t192)))))
set_option maxHeartbeats 8000000 in
set_option maxRecDepth 100000 in
theorem abacistref02_Add.calls (a0 : Int) (a1 : Int) (r : Int) (w : World) (h : abacistref02_Add.f a0 a1 = some r) :
    Calls Tryd.prog 15 #[.int .u64 a0, .int .u64 a1] w fun e w' => e = .returned (.int .u64 r) ∧ Drawn0 w w' := by
  have H : ((abacistref02_Of.f a0).bind fun t191 => ((abacistref02_Of.f a1).bind fun t192 => (if t191 ≥ (IntKind.u64.wrap (18446744069414584321 - t192)) then (some (IntKind.u64.wrap (t191 - (IntKind.u64.wrap (18446744069414584321 - t192))))) else (some (IntKind.u64.wrap (t191 + t192)))))) = some r := h
  clear h
  replace H := Option.bind_eq_some_iff.mp H
  obtain ⟨t191, A30, H⟩ := H
  replace H : ((abacistref02_Of.f a1).bind fun t192 => (if t191 ≥ (IntKind.u64.wrap (18446744069414584321 - t192)) then (some (IntKind.u64.wrap (t191 - (IntKind.u64.wrap (18446744069414584321 - t192))))) else (some (IntKind.u64.wrap (t191 + t192))))) = some r := H
  have A3 := Aside0.mk A30
  clear A30
  replace H := Option.bind_eq_some_iff.mp H
  obtain ⟨t192, A40, H⟩ := H
  replace H : (if t191 ≥ (IntKind.u64.wrap (18446744069414584321 - t192)) then (some (IntKind.u64.wrap (t191 - (IntKind.u64.wrap (18446744069414584321 - t192))))) else (some (IntKind.u64.wrap (t191 + t192)))) = some r := H
  have A4 := Aside0.mk A40
  clear A40
  by_cases c5 : t191 ≥ (IntKind.u64.wrap (18446744069414584321 - t192))
  · rw [if_pos c5] at H
    have c5b0 : decide ((IntKind.u64.wrap (18446744069414584321 - t192)) ≤ t191) = true := decide_eq_true c5
    clear c5
    obtain rfl := Option.some.inj H
    go_enter Tryd.func15, Tryd.ntmps15
    go_wp2_with (first | ((with_reducible refine gate_callee (f := 33) rfl ?_); refine goesL_ (some 6) rfl rfl Tryd.func33 (by kernel_rfl) rfl #[.int .u64 a0] rfl (by (try simp only [List.map_toArray, List.map_cons, List.map_nil]); first | done | rfl | (simp only [List.length_drop, List.length_take]; rfl)) ?_; (with_reducible refine (abacistref02_Of.calls a0 t191 _ A3.out).mono ?_); rintro e w' ⟨rfl, ⟨nd, rfl⟩⟩; refine ⟨_, rfl, ?_⟩) | ((with_reducible refine gate_callee (f := 33) rfl ?_); refine goesL_ (some 8) rfl rfl Tryd.func33 (by kernel_rfl) rfl #[.int .u64 a1] rfl (by (try simp only [List.map_toArray, List.map_cons, List.map_nil]); first | done | rfl | (simp only [List.length_drop, List.length_take]; rfl)) ?_; (with_reducible refine (abacistref02_Of.calls a1 t192 _ A4.out).mono ?_); rintro e w' ⟨rfl, ⟨nd, rfl⟩⟩; refine ⟨_, rfl, ?_⟩))
    go_ret
    exact ⟨by first | rfl | (simp; done) | (simp [*]; done), by repeat (first | exact Drawn0.refl _ | apply Drawn0.step)⟩
  · rw [if_neg c5] at H
    have c5b0 : decide ((IntKind.u64.wrap (18446744069414584321 - t192)) ≤ t191) = false := decide_eq_false c5
    clear c5
    obtain rfl := Option.some.inj H
    go_enter Tryd.func15, Tryd.ntmps15
    go_wp2_with (first | ((with_reducible refine gate_callee (f := 33) rfl ?_); refine goesL_ (some 6) rfl rfl Tryd.func33 (by kernel_rfl) rfl #[.int .u64 a0] rfl (by (try simp only [List.map_toArray, List.map_cons, List.map_nil]); first | done | rfl | (simp only [List.length_drop, List.length_take]; rfl)) ?_; (with_reducible refine (abacistref02_Of.calls a0 t191 _ A3.out).mono ?_); rintro e w' ⟨rfl, ⟨nd, rfl⟩⟩; refine ⟨_, rfl, ?_⟩) | ((with_reducible refine gate_callee (f := 33) rfl ?_); refine goesL_ (some 8) rfl rfl Tryd.func33 (by kernel_rfl) rfl #[.int .u64 a1] rfl (by (try simp only [List.map_toArray, List.map_cons, List.map_nil]); first | done | rfl | (simp only [List.length_drop, List.length_take]; rfl)) ?_; (with_reducible refine (abacistref02_Of.calls a1 t192 _ A4.out).mono ?_); rintro e w' ⟨rfl, ⟨nd, rfl⟩⟩; refine ⟨_, rfl, ?_⟩))
    go_ret
    exact ⟨by first | rfl | (simp; done) | (simp [*]; done), by repeat (first | exact Drawn0.refl _ | apply Drawn0.step)⟩

/-! ### abacistref02_Mul: function 16 -/
def abacistref02_Mul.l0 : Nat → Int → Int → Int → Option (Int)
  | 0, _, _, _ => none
  | k + 1, x0, x1, x5 => if x1 > 0 then (if (Int.tmod x1 2) = 1 then ((abacistref02_Add.f x5 x0).bind fun t194 => ((abacistref02_Add.f x0 x0).bind fun t195 => (abacistref02_Mul.l0 k t195 (IntKind.u64.wrap (Int.tdiv x1 2)) t194))) else ((abacistref02_Add.f x0 x0).bind fun t196 => (abacistref02_Mul.l0 k t196 (IntKind.u64.wrap (Int.tdiv x1 2)) x5))) else (some x5)
def abacistref02_Mul.f (k : Nat) (a0 : Int) (a1 : Int) : Option (Int) := (abacistref02_Of.f a0).bind fun t193 => (abacistref02_Mul.l0 k t193 a1 0)
theorem abacistref02_Mul.mono_l : ∀ k, (∀ y0 y1 y2, LeO (abacistref02_Mul.l0 k y0 y1 y2) (abacistref02_Mul.l0 (k + 1) y0 y1 y2))
  | 0 => fun _ _ _ r h => by simp [abacistref02_Mul.l0] at h
  | k + 1 => by
    have ih0 := abacistref02_Mul.mono_l k
    · intro y0 y1 y2
      unfold abacistref02_Mul.l0
      repeat' first
      | (with_reducible exact ih0 _ _ _)
      | (with_reducible exact LeO.refl _)
      | (with_reducible exact LeO.none _)
      | (with_reducible refine LeO.ite ?_ ?_)
      | (with_reducible refine LeO.bind ?_ (fun _ => ?_))
      | exact ih0 _ _ _
      | exact LeO.none _
      | refine LeO.ite ?_ ?_
      | refine LeO.bind ?_ (fun _ => ?_)
theorem abacistref02_Mul.mono : ∀ a0 a1 k, LeO (abacistref02_Mul.f k a0 a1) (abacistref02_Mul.f (k + 1) a0 a1) := by
  intro a0 a1 k
  have ih0 := abacistref02_Mul.mono_l k
  unfold abacistref02_Mul.f
  repeat' first
      | (with_reducible exact ih0 _ _ _)
      | (with_reducible exact LeO.refl _)
      | (with_reducible exact LeO.none _)
      | (with_reducible refine LeO.ite ?_ ?_)
      | (with_reducible refine LeO.bind ?_ (fun _ => ?_))
      | exact ih0 _ _ _
      | exact LeO.none _
      | refine LeO.ite ?_ ?_
      | refine LeO.bind ?_ (fun _ => ?_)
set_option maxHeartbeats 8000000 in
set_option maxRecDepth 100000 in
theorem abacistref02_Mul.calls (k : Nat) (a0 : Int) (a1 : Int) (r : Int) (w : World) (h : abacistref02_Mul.f k a0 a1 = some r) :
    Calls Tryd.prog 16 #[.int .u64 a0, .int .u64 a1] w fun e w' => e = .returned (.int .u64 r) ∧ Drawn0 w w' := by
  have H : ((abacistref02_Of.f a0).bind fun t193 => (abacistref02_Mul.l0 k t193 a1 0)) = some r := h
  clear h
  replace H := Option.bind_eq_some_iff.mp H
  obtain ⟨t193, A30, H⟩ := H
  replace H : (abacistref02_Mul.l0 k t193 a1 0) = some r := H
  have A3 := Aside0.mk A30
  clear A30
  have H' := Aside0.mk H
  clear H
  go_enter Tryd.func16, Tryd.ntmps16
  go_wp2_with (first | ((with_reducible refine gate_callee (f := 33) rfl ?_); refine goesL_ (some 7) rfl rfl Tryd.func33 (by kernel_rfl) rfl #[.int .u64 a0] rfl (by (try simp only [List.map_toArray, List.map_cons, List.map_nil]); first | done | rfl | (simp only [List.length_drop, List.length_take]; rfl)) ?_; (with_reducible refine (abacistref02_Of.calls a0 t193 _ A3.out).mono ?_); rintro e w' ⟨rfl, ⟨nd, rfl⟩⟩; refine ⟨_, rfl, ?_⟩))
  go_loopg [0, 1, 5] k (fun kq v0 v1 v5 w' => ∃ (x0_1 : Int) (x1_1 : Int) (x5_1 : Int), v0 = .int .u64 x0_1 ∧ v1 = .int .u64 x1_1 ∧ v5 = .int .u64 x5_1 ∧ Aside0 (abacistref02_Mul.l0 kq x0_1 x1_1 x5_1 = some r) ∧ Aside0 (kq ≤ k) ∧ Drawn0 w w')
  case atStart => exact ⟨(t193), (a1), (0), (by first | rfl | (simp; done) | (simp [*]; done)), (by first | rfl | (simp; done) | (simp [*]; done)), (by first | rfl | (simp; done) | (simp [*]; done)), H', ⟨Nat.le_refl _⟩, by repeat (first | exact Drawn0.refl _ | apply Drawn0.step)⟩
  case round =>
    clear H'
    try clear c1
    try clear p2
    try clear c3
    obtain ⟨x0_1, x1_1, x5_1, rfl, rfl, rfl, HA, HK1, ⟨m1, rfl⟩⟩ := hrel
    cases gk with
    | zero => exact absurd HA.out (by simp [abacistref02_Mul.l0])
    | succ k1 =>
      have H := HA.out
      clear HA
      simp only [abacistref02_Mul.l0] at H
      by_cases c4 : x1_1 > 0
      · rw [if_pos c4] at H
        have c4b0 : decide (0 < x1_1) = true := decide_eq_true c4
        clear c4
        by_cases c5 : (Int.tmod x1_1 2) = 1
        · rw [if_pos c5] at H
          have c5b0 : ((Int.tmod x1_1 2) == 1) = true := beq_iff_eq.mpr c5
          have c5b1 : ((Int.tmod x1_1 2) != 1) = false := bne_eq_false_iff_eq.mpr c5
          clear c5
          replace H := Option.bind_eq_some_iff.mp H
          obtain ⟨t194, A60, H⟩ := H
          replace H : ((abacistref02_Add.f x0_1 x0_1).bind fun t195 => (abacistref02_Mul.l0 k1 t195 (IntKind.u64.wrap (Int.tdiv x1_1 2)) t194)) = some r := H
          have A6 := Aside0.mk A60
          clear A60
          replace H := Option.bind_eq_some_iff.mp H
          obtain ⟨t195, A70, H⟩ := H
          replace H : (abacistref02_Mul.l0 k1 t195 (IntKind.u64.wrap (Int.tdiv x1_1 2)) t194) = some r := H
          have A7 := Aside0.mk A70
          clear A70
          have H' := Aside0.mk H
          clear H
          go_wp2_with (first | ((with_reducible refine gate_callee (f := 15) rfl ?_); refine goesL_ (some 15) rfl rfl Tryd.func15 (by kernel_rfl) rfl #[.int .u64 x5_1, .int .u64 x0_1] rfl (by (try simp only [List.map_toArray, List.map_cons, List.map_nil]); first | done | rfl | (simp only [List.length_drop, List.length_take]; rfl)) ?_; (with_reducible refine (abacistref02_Add.calls x5_1 x0_1 t194 _ A6.out).mono ?_); rintro e w' ⟨rfl, ⟨nd, rfl⟩⟩; refine ⟨_, rfl, ?_⟩) | ((with_reducible refine gate_callee (f := 15) rfl ?_); refine goesL_ (some 18) rfl rfl Tryd.func15 (by kernel_rfl) rfl #[.int .u64 x0_1, .int .u64 x0_1] rfl (by (try simp only [List.map_toArray, List.map_cons, List.map_nil]); first | done | rfl | (simp only [List.length_drop, List.length_take]; rfl)) ?_; (with_reducible refine (abacistref02_Add.calls x0_1 x0_1 t195 _ A7.out).mono ?_); rintro e w' ⟨rfl, ⟨nd, rfl⟩⟩; refine ⟨_, rfl, ?_⟩))
          (first | go_roundg k1 | (simp only [add_plain] at *; go_roundg k1))
          case measure => have := HK1.out; omega
          case rel => exact ⟨(t195), (IntKind.u64.wrap (Int.tdiv x1_1 2)), (t194), (by first | rfl | (simp; done) | (simp [*]; done)), (by first | rfl | (simp; done) | (simp [*]; done)), (by first | rfl | (simp; done) | (simp [*]; done)), H', ⟨by have := HK1.out; omega⟩, by repeat (first | exact Drawn0.refl _ | apply Drawn0.step)⟩
        · rw [if_neg c5] at H
          have c5b0 : ((Int.tmod x1_1 2) == 1) = false := beq_eq_false_iff_ne.mpr c5
          have c5b1 : ((Int.tmod x1_1 2) != 1) = true := bne_iff_ne.mpr c5
          replace H := Option.bind_eq_some_iff.mp H
          obtain ⟨t196, A80, H⟩ := H
          replace H : (abacistref02_Mul.l0 k1 t196 (IntKind.u64.wrap (Int.tdiv x1_1 2)) x5_1) = some r := H
          have A8 := Aside0.mk A80
          clear A80
          have H' := Aside0.mk H
          clear H
          go_wp2_with (first | ((with_reducible refine gate_callee (f := 15) rfl ?_); refine goesL_ (some 18) rfl rfl Tryd.func15 (by kernel_rfl) rfl #[.int .u64 x0_1, .int .u64 x0_1] rfl (by (try simp only [List.map_toArray, List.map_cons, List.map_nil]); first | done | rfl | (simp only [List.length_drop, List.length_take]; rfl)) ?_; (with_reducible refine (abacistref02_Add.calls x0_1 x0_1 t196 _ A8.out).mono ?_); rintro e w' ⟨rfl, ⟨nd, rfl⟩⟩; refine ⟨_, rfl, ?_⟩))
          (first | go_roundg k1 | (simp only [add_plain] at *; go_roundg k1))
          case measure => have := HK1.out; omega
          case rel => exact ⟨(t196), (IntKind.u64.wrap (Int.tdiv x1_1 2)), (x5_1), (by first | rfl | (simp; done) | (simp [*]; done)), (by first | rfl | (simp; done) | (simp [*]; done)), (by first | rfl | (simp; done) | (simp [*]; done)), H', ⟨by have := HK1.out; omega⟩, by repeat (first | exact Drawn0.refl _ | apply Drawn0.step)⟩
      · rw [if_neg c4] at H
        have c4b0 : decide (0 < x1_1) = false := decide_eq_false c4
        clear c4
        obtain rfl := Option.some.inj H
        go_wp2
        go_ret
        exact ⟨by first | rfl | (simp; done) | (simp [*]; done), by repeat (first | exact Drawn0.refl _ | apply Drawn0.step)⟩

/-! ### abacistref02_Pow: function 35 -/
def abacistref02_Pow.l0 : Nat → Int → Int → Int → Option (Int)
  | 0, _, _, _ => none
  | k + 1, x0, x1, x5 => if x1 > 0 then (if (Int.tmod x1 2) = 1 then ((abacistref02_Mul.f k x5 x0).bind fun t198 => ((abacistref02_Mul.f k x0 x0).bind fun t199 => (abacistref02_Pow.l0 k t199 (IntKind.u64.wrap (Int.tdiv x1 2)) t198))) else ((abacistref02_Mul.f k x0 x0).bind fun t200 => (abacistref02_Pow.l0 k t200 (IntKind.u64.wrap (Int.tdiv x1 2)) x5))) else (some x5)
def abacistref02_Pow.f (k : Nat) (a0 : Int) (a1 : Int) : Option (Int) := (abacistref02_Of.f a0).bind fun t197 => (abacistref02_Pow.l0 k t197 a1 1)
theorem abacistref02_Pow.mono_l : ∀ k, (∀ y0 y1 y2, LeO (abacistref02_Pow.l0 k y0 y1 y2) (abacistref02_Pow.l0 (k + 1) y0 y1 y2))
  | 0 => fun _ _ _ r h => by simp [abacistref02_Pow.l0] at h
  | k + 1 => by
    have ih0 := abacistref02_Pow.mono_l k
    · intro y0 y1 y2
      unfold abacistref02_Pow.l0
      repeat' first
      | (with_reducible exact ih0 _ _ _)
      | (with_reducible exact abacistref02_Mul.mono _ _ _)
      | (with_reducible exact LeO.refl _)
      | (with_reducible exact LeO.none _)
      | (with_reducible refine LeO.ite ?_ ?_)
      | (with_reducible refine LeO.bind ?_ (fun _ => ?_))
      | exact ih0 _ _ _
      | exact abacistref02_Mul.mono _ _ _
      | exact LeO.none _
      | refine LeO.ite ?_ ?_
      | refine LeO.bind ?_ (fun _ => ?_)
theorem abacistref02_Pow.mono : ∀ a0 a1 k, LeO (abacistref02_Pow.f k a0 a1) (abacistref02_Pow.f (k + 1) a0 a1) := by
  intro a0 a1 k
  have ih0 := abacistref02_Pow.mono_l k
  unfold abacistref02_Pow.f
  repeat' first
      | (with_reducible exact ih0 _ _ _)
      | (with_reducible exact abacistref02_Mul.mono _ _ _)
      | (with_reducible exact LeO.refl _)
      | (with_reducible exact LeO.none _)
      | (with_reducible refine LeO.ite ?_ ?_)
      | (with_reducible refine LeO.bind ?_ (fun _ => ?_))
      | exact ih0 _ _ _
      | exact abacistref02_Mul.mono _ _ _
      | exact LeO.none _
      | refine LeO.ite ?_ ?_
      | refine LeO.bind ?_ (fun _ => ?_)
set_option maxHeartbeats 8000000 in
set_option maxRecDepth 100000 in
theorem abacistref02_Pow.calls (k : Nat) (a0 : Int) (a1 : Int) (r : Int) (w : World) (h : abacistref02_Pow.f k a0 a1 = some r) :
    Calls Tryd.prog 35 #[.int .u64 a0, .int .u64 a1] w fun e w' => e = .returned (.int .u64 r) ∧ Drawn0 w w' := by
  have H : ((abacistref02_Of.f a0).bind fun t197 => (abacistref02_Pow.l0 k t197 a1 1)) = some r := h
  clear h
  replace H := Option.bind_eq_some_iff.mp H
  obtain ⟨t197, A30, H⟩ := H
  replace H : (abacistref02_Pow.l0 k t197 a1 1) = some r := H
  have A3 := Aside0.mk A30
  clear A30
  have H' := Aside0.mk H
  clear H
  go_enter Tryd.func35, Tryd.ntmps35
  go_wp2_with (first | ((with_reducible refine gate_callee (f := 33) rfl ?_); refine goesL_ (some 7) rfl rfl Tryd.func33 (by kernel_rfl) rfl #[.int .u64 a0] rfl (by (try simp only [List.map_toArray, List.map_cons, List.map_nil]); first | done | rfl | (simp only [List.length_drop, List.length_take]; rfl)) ?_; (with_reducible refine (abacistref02_Of.calls a0 t197 _ A3.out).mono ?_); rintro e w' ⟨rfl, ⟨nd, rfl⟩⟩; refine ⟨_, rfl, ?_⟩))
  go_loopg [0, 1, 5] k (fun kq v0 v1 v5 w' => ∃ (x0_1 : Int) (x1_1 : Int) (x5_1 : Int), v0 = .int .u64 x0_1 ∧ v1 = .int .u64 x1_1 ∧ v5 = .int .u64 x5_1 ∧ Aside0 (abacistref02_Pow.l0 kq x0_1 x1_1 x5_1 = some r) ∧ Aside0 (kq ≤ k) ∧ Drawn0 w w')
  case atStart => exact ⟨(t197), (a1), (1), (by first | rfl | (simp; done) | (simp [*]; done)), (by first | rfl | (simp; done) | (simp [*]; done)), (by first | rfl | (simp; done) | (simp [*]; done)), H', ⟨Nat.le_refl _⟩, by repeat (first | exact Drawn0.refl _ | apply Drawn0.step)⟩
  case round =>
    clear H'
    try clear p2
    try clear c3
    obtain ⟨x0_1, x1_1, x5_1, rfl, rfl, rfl, HA, HK1, ⟨m1, rfl⟩⟩ := hrel
    cases gk with
    | zero => exact absurd HA.out (by simp [abacistref02_Pow.l0])
    | succ k1 =>
      have H := HA.out
      clear HA
      simp only [abacistref02_Pow.l0] at H
      by_cases c4 : x1_1 > 0
      · rw [if_pos c4] at H
        have c4b0 : decide (0 < x1_1) = true := decide_eq_true c4
        clear c4
        by_cases c5 : (Int.tmod x1_1 2) = 1
        · rw [if_pos c5] at H
          have c5b0 : ((Int.tmod x1_1 2) == 1) = true := beq_iff_eq.mpr c5
          have c5b1 : ((Int.tmod x1_1 2) != 1) = false := bne_eq_false_iff_eq.mpr c5
          clear c5
          replace H := Option.bind_eq_some_iff.mp H
          obtain ⟨t198, A60, H⟩ := H
          replace H : ((abacistref02_Mul.f k1 x0_1 x0_1).bind fun t199 => (abacistref02_Pow.l0 k1 t199 (IntKind.u64.wrap (Int.tdiv x1_1 2)) t198)) = some r := H
          have A6 := Aside0.mk A60
          clear A60
          replace H := Option.bind_eq_some_iff.mp H
          obtain ⟨t199, A70, H⟩ := H
          replace H : (abacistref02_Pow.l0 k1 t199 (IntKind.u64.wrap (Int.tdiv x1_1 2)) t198) = some r := H
          have A7 := Aside0.mk A70
          clear A70
          have H' := Aside0.mk H
          clear H
          go_wp2_with (first | ((with_reducible refine gate_callee (f := 16) rfl ?_); refine goesL_ (some 15) rfl rfl Tryd.func16 (by kernel_rfl) rfl #[.int .u64 x5_1, .int .u64 x0_1] rfl (by (try simp only [List.map_toArray, List.map_cons, List.map_nil]); first | done | rfl | (simp only [List.length_drop, List.length_take]; rfl)) ?_; (with_reducible refine (abacistref02_Mul.calls k1 x5_1 x0_1 t198 _ A6.out).mono ?_); rintro e w' ⟨rfl, ⟨nd, rfl⟩⟩; refine ⟨_, rfl, ?_⟩) | ((with_reducible refine gate_callee (f := 16) rfl ?_); refine goesL_ (some 18) rfl rfl Tryd.func16 (by kernel_rfl) rfl #[.int .u64 x0_1, .int .u64 x0_1] rfl (by (try simp only [List.map_toArray, List.map_cons, List.map_nil]); first | done | rfl | (simp only [List.length_drop, List.length_take]; rfl)) ?_; (with_reducible refine (abacistref02_Mul.calls k1 x0_1 x0_1 t199 _ A7.out).mono ?_); rintro e w' ⟨rfl, ⟨nd, rfl⟩⟩; refine ⟨_, rfl, ?_⟩))
          (first | go_roundg k1 | (simp only [add_plain] at *; go_roundg k1))
          case measure => have := HK1.out; omega
          case rel => exact ⟨(t199), (IntKind.u64.wrap (Int.tdiv x1_1 2)), (t198), (by first | rfl | (simp; done) | (simp [*]; done)), (by first | rfl | (simp; done) | (simp [*]; done)), (by first | rfl | (simp; done) | (simp [*]; done)), H', ⟨by have := HK1.out; omega⟩, by repeat (first | exact Drawn0.refl _ | apply Drawn0.step)⟩
        · rw [if_neg c5] at H
          have c5b0 : ((Int.tmod x1_1 2) == 1) = false := beq_eq_false_iff_ne.mpr c5
          have c5b1 : ((Int.tmod x1_1 2) != 1) = true := bne_iff_ne.mpr c5
          replace H := Option.bind_eq_some_iff.mp H
          obtain ⟨t200, A80, H⟩ := H
          replace H : (abacistref02_Pow.l0 k1 t200 (IntKind.u64.wrap (Int.tdiv x1_1 2)) x5_1) = some r := H
          have A8 := Aside0.mk A80
          clear A80
          have H' := Aside0.mk H
          clear H
          go_wp2_with (first | ((with_reducible refine gate_callee (f := 16) rfl ?_); refine goesL_ (some 18) rfl rfl Tryd.func16 (by kernel_rfl) rfl #[.int .u64 x0_1, .int .u64 x0_1] rfl (by (try simp only [List.map_toArray, List.map_cons, List.map_nil]); first | done | rfl | (simp only [List.length_drop, List.length_take]; rfl)) ?_; (with_reducible refine (abacistref02_Mul.calls k1 x0_1 x0_1 t200 _ A8.out).mono ?_); rintro e w' ⟨rfl, ⟨nd, rfl⟩⟩; refine ⟨_, rfl, ?_⟩))
          (first | go_roundg k1 | (simp only [add_plain] at *; go_roundg k1))
          case measure => have := HK1.out; omega
          case rel => exact ⟨(t200), (IntKind.u64.wrap (Int.tdiv x1_1 2)), (x5_1), (by first | rfl | (simp; done) | (simp [*]; done)), (by first | rfl | (simp; done) | (simp [*]; done)), (by first | rfl | (simp; done) | (simp [*]; done)), H', ⟨by have := HK1.out; omega⟩, by repeat (first | exact Drawn0.refl _ | apply Drawn0.step)⟩
      · rw [if_neg c4] at H
        have c4b0 : decide (0 < x1_1) = false := decide_eq_false c4
        clear c4
        obtain rfl := Option.some.inj H
        go_wp2
        go_ret
        exact ⟨by first | rfl | (simp; done) | (simp [*]; done), by repeat (first | exact Drawn0.refl _ | apply Drawn0.step)⟩

end Go.Proofs.YtggmpdmlbjllhaaDoor.PHalvesRun
