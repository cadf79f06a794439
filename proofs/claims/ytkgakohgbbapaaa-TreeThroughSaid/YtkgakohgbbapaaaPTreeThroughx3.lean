-- Written for this claim by wip/gen/mk.sh, this session's own driver over the kit's print
import Derived.Test.YtkgakohgbbapaaaPTreeThroughx0
import Derived.Test.YtkgakohgbbapaaaPTreeThroughx1
import Derived.Test.YtkgakohgbbapaaaPTreeThroughx2
namespace Go.Proofs.Ytkgakohgbbapaaa.PTreeThrough
open Go.RowKit Go.Proofs.YtkgakohgbbapaaaW.PrintWords Go.Proofs.YtkgakohgbbapaaaW.PrintLast Go.Proofs.YtkgakohgbbapaaaW.PrintMore
attribute [local go_sem] max2_int min2_int max_two min_two max_three min_three max_four min_four   -- for this text's walks alone
set_option linter.unusedVariables false
set_option linter.unusedSimpArgs false

/-! ### kern4_Kernel_Plain: function 73 (by hand) -/
def hk_mz (n : Nat) : Array Value := madeCells (Value.cells (.int .u64 0)) (n * 1)
theorem hk_mz_run {n : Nat} (h : n ≤ 1048576) (W : World) : (Instr.makeSlice 22 (.int .i64 (n : Int)) (.int .i64 (n : Int))).run Try.prog W = .ok (.slice (some ⟨W.heap.size, 0, none⟩) n n) (W.alloc (.cells (hk_mz n) 29)) := by
  obtain ⟨i0, hi, hzz⟩ := Option.map_eq_some_iff.1 info29
  simp only [Prod.mk.injEq] at hzz
  obtain ⟨hz0, hz1, hz2⟩ := hzz
  have hr := run_make (P := Try.prog) W 22 29 i0 _ Try.underlying22 hi hz0 .i64 .i64 (n : Int) (n : Int) (by omega) (by omega) (by rw [hz2]; omega) (by omega)
  rw [hr, Int.toNat_natCast, hz1]
  rfl
theorem hk_mz_R {n : Nat} (h : n ≤ 1048576) {W : World} {base : Nat} {ok : Nat → Prop} (hb : base ≤ W.heap.size) (hok : ok W.heap.size) : Kd.R (Kd.int .u64) 29 (W.alloc (.cells (hk_mz n) 29)) base ok (.slice (some ⟨W.heap.size, 0, none⟩) n n) (List.replicate n 0) := by
  have hlen : (hk_mz n).size = n := by unfold hk_mz; rw [size_madeCells]; omega
  have h2 := World.ownsRow_lit (base := base) (e := 29) (size := 1) W (hk_mz n) n hb (by unfold maxLen; omega) (by omega)
  refine Kd.R_of_own (enc := Value.int .u64) (h1 := fun _ => rfl) ?_ (fun k hk => by simp [Value.ownBlock] at hk; subst hk; exact hok)
  have e : (hk_mz n).toList = encs (Value.int .u64) (List.replicate n 0) := by
    unfold hk_mz madeCells encs
    rw [List.map_replicate]
    apply List.ext_getElem?
    intro j
    simp [List.getElem?_replicate, Value.cells]
    by_cases hj : j < n
    · simp [hj, Nat.mod_one]
    · simp [hj]
  rw [← e, List.length_replicate]
  exact h2
structure hk_PE (w0 w : World) (gp : Nat) (PD : Option Addr) (np cd : Nat) (ud : Int) (N g1 g2 c1 c2 : Nat) (src dst : List Int) (W : World) : Prop where
  hB : Below w0.heap.size w0 W
  hW : Below w.heap.size w W
  hX : W.heap[gp]? = some (.cells #[.slice PD np cd, .int .u64 ud, .slice (some ⟨g1, 0, none⟩) N c1, .slice (some ⟨g2, 0, none⟩) N c2] 98 (0, 0))
  h1 : Kd.R (Kd.int .u64) 29 W w0.heap.size (fun j => j = g1) (.slice (some ⟨g1, 0, none⟩) N c1) src
  h2 : Kd.R (Kd.int .u64) 29 W w0.heap.size (fun j => j = g2) (.slice (some ⟨g2, 0, none⟩) N c2) dst
  ne : w.heap.size ≤ gp ∧ w.heap.size ≤ g1 ∧ w.heap.size ≤ g2 ∧ g1 ≠ gp ∧ g2 ≠ gp ∧ g1 ≠ g2
theorem hk_scale_new (n : Nat) (g co N : Nat) (l0 sc : List Int) (w0 W : World) (S : Nat → Prop) (hR : Kd.R (Kd.int .u64) 29 W w0.heap.size S (.slice (some ⟨g, 0, none⟩) l0.length co) l0) (hsc : twid_Scale.f n l0 1 = some sc) (hscl : sc.length = l0.length) (hp : 0 < l0.length) :
    Calls Try.prog 74 #[.slice (some ⟨g, 0, none⟩) l0.length co, .int .u64 1] W fun e w' => ∃ gs q, e = .returned (.slice (some ⟨gs, 0, none⟩) l0.length q) ∧ W.heap.size ≤ gs ∧ Kd.R (Kd.int .u64) 29 w' W.heap.size (fun j => j = gs) (.slice (some ⟨gs, 0, none⟩) l0.length q) sc ∧ Below W.heap.size W w' := by
  refine (twid_Scale.calls n (some ⟨g, 0, none⟩) co l0 1 sc W (Kd.R_reads' hR).2.2 (Kd.R_reads' hR).2.1 hsc).mono ?_
  rintro e w' ⟨v, rfl, hv, hb⟩
  obtain ⟨gs, q, ev, hge, _, _, _⟩ := Kd.R_form hv (by omega)
  rw [hscl] at ev
  subst ev
  exact ⟨gs, q, rfl, hge, Kd.R_flat (fun h => h) hv (fun k hk _ => by have : some gs = some k := hk; injection this with this; exact this.symm), hb⟩
theorem hk_PE_mk {w0 w v : World} {PD : Option Addr} {np cd : Nat} {ud : Int} {N gs gd q q2 : Nat} {sc ze : List Int} (hB : Below w0.heap.size w0 w) (hwv : Below w.heap.size w v) (hgs : w.heap.size ≤ gs) (hgd : w.heap.size ≤ gd) (hne : gs ≠ gd)
    (h1 : Kd.R (Kd.int .u64) 29 v w0.heap.size (fun j => j = gs) (.slice (some ⟨gs, 0, none⟩) N q) sc) (h2 : Kd.R (Kd.int .u64) 29 v w0.heap.size (fun j => j = gd) (.slice (some ⟨gd, 0, none⟩) N q2) ze) :
    hk_PE w0 w v.heap.size PD np cd ud N gs gd q q2 sc ze (v.alloc (.cells #[.slice PD np cd, .int .u64 ud, .slice (some ⟨gs, 0, none⟩) N q, .slice (some ⟨gd, 0, none⟩) N q2] 98)) := by
  have hg1 := Kd.R_lt h1 gs rfl
  have hg2 := Kd.R_lt h2 gd rfl
  have hww := hwv.alloc hwv.size (.cells #[.slice PD np cd, .int .u64 ud, .slice (some ⟨gs, 0, none⟩) N q, .slice (some ⟨gd, 0, none⟩) N q2] 98)
  exact ⟨hB.trans (hww.mono hB.size), hww, Array.getElem?_push_size, Kd.R_alloc h1 _, Kd.R_alloc h2 _, hwv.size, hgs, hgd, by omega, by omega, hne⟩
def hk_k4s (pw : List Int) (u : Int) (k : Nat) (sc : List Int) : Nat → Option (List Int × List Int)
  | 0 => some (sc, List.replicate sc.length 0)
  | j + 1 => (hk_k4s pw u k sc j).bind fun p => (hk_qout pw p.1 u (2 ^ (k - 2 * j)) (4 ^ j) (p.1.length / 2 ^ (k - 2 * j)) p.2 (2 ^ (k - 2 * j) / 4)).bind fun r => some (r, p.1)
def hk_k4r (pw : List Int) (u : Int) (k : Nat) (sc : List Int) : Option (List Int) := (hk_k4s pw u k sc (k / 2)).bind fun p => if k % 2 = 1 then hk_hin p.1 (4 ^ (k / 2)) p.2 (4 ^ (k / 2)) else some p.1
theorem hk_k4s_down {pw : List Int} {u : Int} {k : Nat} {sc : List Int} : ∀ {j m : Nat} {r : List Int × List Int}, hk_k4s pw u k sc (j + m) = some r → ∃ x, hk_k4s pw u k sc j = some x
  | j, 0, r, h => ⟨r, h⟩
  | j, m + 1, r, h => by
    unfold hk_k4s at h
    obtain ⟨x, hx, _⟩ := Option.bind_eq_some_iff.1 h
    exact hk_k4s_down (m := m) hx
theorem hk_below_of {w0 w w' : World} (hB : Below w0.heap.size w0 w) (hB' : Below w0.heap.size w0 w') (hk : Kept w w' (fun _ => False)) : Below w.heap.size w w' :=
  ⟨hB'.os.trans hB.os.symm, hB'.tape.trans hB.tape.symm, hB'.output.trans hB.output.symm, hk.1, fun i hi => hk.2 i hi (fun h => h)⟩
theorem hk_PE.next {w0 w W w' : World} {gp : Nat} {PD : Option Addr} {np cd : Nat} {ud : Int} {N g1 g2 c1 c2 : Nat} {src dst r : List Int} (hB : Below w0.heap.size w0 w) (h : hk_PE w0 w gp PD np cd ud N g1 g2 c1 c2 src dst W) (hb : Below w0.heap.size w0 w') (hk : Kept W w' (fun j => j = gp ∨ j = g2))
    (hX : w'.heap[gp]? = some (.cells #[.slice PD np cd, .int .u64 ud, .slice (some ⟨g2, 0, none⟩) N c2, .slice (some ⟨g1, 0, none⟩) N c1] 98 (0, 0)))
    (hr : Kd.R (Kd.int .u64) 29 w' w0.heap.size (fun j => j = g2) (.slice (some ⟨g2, 0, none⟩) N c2) r) : hk_PE w0 w gp PD np cd ud N g2 g1 c2 c1 r src w' := by
  obtain ⟨n0, n1, n2, n3, n4, n5⟩ := h.ne
  refine ⟨hb, hk_below_of hB hb ((Kept.of_below h.hW (fun _ => False)).then_ hk (fun q hq => .inr (by rcases hq with rfl | rfl; exact n0; exact n2))), hX, hr, Kd.R_kept h.h1 hk (fun q hq hs => by subst hq; rcases hs with h | h; exact n3 h; exact n5 h), n0, n2, n1, n4, n3, Ne.symm n5⟩
theorem hk_quarter.PE (n s : Nat) (gp : Nat) (PD : Option Addr) (cd : Nat) (ud : Int) (N g1 g2 c1 c2 : Nat) (pd src dst r : List Int) (w0 w W : World) (S : Nat → Prop) (hB : Below w0.heap.size w0 w) (h : hk_PE w0 w gp PD pd.length cd ud N g1 g2 c1 c2 src dst W) (hSL : src.length = N)
    (hT : ∀ W, Kept w W S → Kd.C (Kd.int .u64) W PD pd.length pd) (hs : 0 < s) (hn : 4 ≤ n) (hN : N = n * s) (hN2 : N ≤ 1048576) (hpl : N ≤ pd.length) (hpl2 : pd.length ≤ 1048576) (hq : hk_qout pd src ud n s (src.length / n) dst (n / 4) = some r) :
    Calls Try.prog 80 #[.pointer (some ⟨gp, 0, none⟩), .int .i64 n, .int .i64 s] W fun e w' => e = .returned (.tuple #[]) ∧ hk_PE w0 w gp PD pd.length cd ud N g2 g1 c2 c1 r src w' := by
  subst hSL
  obtain ⟨n0, n1, n2, n3, n4, n5⟩ := h.ne
  refine (kern4_quarter.calls n s ud gp g1 g2 PD cd c1 c2 pd src dst r w0 W h.hB h.hX (Kd.C_kept_call hT (Kept.of_below h.hW S) (fun q hq => .inr (by rcases hq with rfl | rfl; exact n0; exact n2))) h.h1 h.h2 (Nat.le_trans hB.size n0) n3 n4 n5 hs hn hN hN2 ?_ hpl2 hq).mono ?_
  · intro i hi
    have e : src.length / n = s := by rw [hN, Nat.mul_div_cancel_left _ (by omega)]
    rw [e]
    have h1 : 3 * i < n := by omega
    have h2 : 3 * i * s < n * s := Nat.mul_lt_mul_of_pos_right h1 hs
    omega
  · rintro e w' ⟨rfl, hb, hk, hX, hr⟩
    exact ⟨rfl, h.next hB hb hk hX hr⟩
theorem hk_half.PE (s : Nat) (gp : Nat) (PD : Option Addr) (cd : Nat) (ud : Int) (N g1 g2 c1 c2 np : Nat) (src dst r : List Int) (w0 w W : World) (hB : Below w0.heap.size w0 w) (h : hk_PE w0 w gp PD np cd ud N g1 g2 c1 c2 src dst W) (hSL : src.length = N)
    (hs : 0 < s) (hN : N = 2 * s) (hN2 : N ≤ 1048576) (hq : hk_hin src s dst s = some r) :
    Calls Try.prog 81 #[.pointer (some ⟨gp, 0, none⟩), .int .i64 s] W fun e w' => e = .returned (.tuple #[]) ∧ hk_PE w0 w gp PD np cd ud N g2 g1 c2 c1 r src w' := by
  subst hSL
  obtain ⟨n0, n1, n2, n3, n4, n5⟩ := h.ne
  refine (kern4_half.calls s ud gp g1 g2 PD cd c1 c2 np src dst r w0 W h.hB h.hX h.h1 h.h2 (Nat.le_trans hB.size n0) n3 n4 n5 hs hN hN2 hq).mono ?_
  rintro e w' ⟨rfl, hb, hk, hX, hr⟩
  exact ⟨rfl, h.next hB hb hk hX hr⟩
theorem hk_pow_split {k j : Nat} (h : 2 * j ≤ k) : 2 ^ k = 2 ^ (k - 2 * j) * 4 ^ j := by
  rw [show (4 : Nat) = 2 ^ 2 by rfl, ← Nat.pow_mul, ← Nat.pow_add]; congr 1; omega
theorem hk_four_le {k j : Nat} (h : 2 * j + 2 ≤ k) : 4 ≤ 2 ^ (k - 2 * j) := by
  have := Nat.pow_le_pow_right (n := 2) (by omega) (show 2 ≤ k - 2 * j by omega); omega
theorem hk_pow_quarter {k j : Nat} (h : 2 * j + 2 ≤ k) : 2 ^ (k - 2 * j) / 4 = 2 ^ (k - 2 * (j + 1)) := by
  rw [show k - 2 * j = k - 2 * (j + 1) + 2 by omega, Nat.pow_add]; exact Nat.mul_div_cancel _ (by omega)
set_option maxHeartbeats 40000000 in
set_option maxRecDepth 100000 in
theorem kern4_Plain.calls (n k : Nat) (hk : k ≤ 20) (u : Value) (l0 pd sc r : List Int) (b b2 : Nat) (v0 v1 x0 x1 x2 : Value) (u0 u1 ud s d : Int) (PD : Option Addr) (cd : Nat) (S : Nat → Prop) (hS : ∀ j, S j ↔ u.ownBlock = some j) (w0 w : World) (hB : Below w0.heap.size w0 w)
    (ho0 : Kd.R (Kd.int .u64) 29 w w0.heap.size S u l0)
    (hX : ∀ W, Kept w W S → W.heap[b]? = some (.cells #[.pointer (some ⟨b2, 0, none⟩), v0, v1, .int .u64 u0, .int .u64 u1, .int .u64 s] 92 (0, 0)))
    (hX2 : ∀ W, Kept w W S → W.heap[b2]? = some (.cells #[x0, x1, x2, .int .i64 (k : Int)] 104 (0, 0)))
    (hT : ∀ W, Kept w W S → Kd.C (Kd.int .u64) W PD pd.length pd)
    (hv : (d = 0 ∧ v0 = .slice PD pd.length cd ∧ ud = u0) ∨ (d = 1 ∧ v1 = .slice PD pd.length cd ∧ ud = u1))
    (hl : l0.length = 2 ^ k) (hsc : twid_Scale.f n l0 1 = some sc) (hscl : sc.length = l0.length) (hpl : l0.length ≤ pd.length) (hpl2 : pd.length ≤ 1048576) (h : hk_k4r pd ud k sc = some r) :
    Calls Try.prog 73 #[.pointer (some ⟨b, 0, none⟩), u, .int .i64 d] w fun e w' => e = .returned (.int .i64 0) ∧ Kd.R (Kd.int .u64) 29 w' w0.heap.size S u r ∧ Below w0.heap.size w0 w' ∧ Kept w w' S := by
  have HK := Aside0.mk hk
  have HB := Aside0.mk hB
  have HX := Aside0.mk hX
  have HX2 := Aside0.mk hX2
  have HT := Aside0.mk hT
  have HL := Aside0.mk hl
  have HSC := Aside0.mk hsc
  have HSCL := Aside0.mk hscl
  have HPL := Aside0.mk (And.intro hpl hpl2)
  have HH := Aside0.mk h
  obtain ⟨g, co, eo, gb, gl, cl, hGG⟩ := Kd.R_form ho0 (by rw [hl]; exact Nat.two_pow_pos k)
  subst eo
  have HO := Aside0.mk ho0
  have GB := Aside0.mk gb
  have HS := Aside0.mk hS
  have hL : l0.length ≤ 1048576 := by rw [hl]; exact Nat.pow_le_pow_right (n := 2) (by omega) hk
  have HLE := Aside0.mk hL
  have HMK := hk_mz_run hL
  have hcond : ((l0.length : Int) != wrap64 (2 ^ min (IntKind.u64.wrap (k : Int)).toNat 64)) = false := by
    have e : IntKind.u64.wrap (k : Int) = (k : Int) := by simp [IntKind.wrap, IntKind.bits, IntKind.signed]; omega
    rw [e, Int.toNat_natCast, Nat.min_eq_left (by omega), show ((2 : Int) ^ k) = ((2 ^ k : Nat) : Int) by simp, ← i64_w, hk_wn (by rw [← hl]; exact hL), hl]
    exact bne_self_eq_false _
  have hc0 := hk_blk_cell (hX w (Kept.refl _ _)) 0 _ rfl
  have HV := Aside0.mk hv
  clear hk hB hX hX2 hT hl hsc hscl ho0 gb gl hGG hS hL hv hpl hpl2 h
  have key : d = 0 ∨ d = 1 := by rcases HV.out with h | h; exact .inl h.1; exact .inr h.1
  have d1 : decide (d < 0) = false := decide_eq_false (by omega)
  have d2 : decide (1 < d) = false := decide_eq_false (by omega)
  clear key
  go_enter Try.func73, Try.ntmps73
  go_wp2_with (go_at_call 79; (with_reducible refine (hk_kern2_K.calls b2 x0 x1 x2 k _ (HX2.out _ (Kept.refl _ _))).mono ?_); rintro e w1 ⟨rfl, hb1⟩; have hb1 := Aside0.mk (hk_drawn_below hb1))
  have HP0 := Aside0.mk (show 0 < l0.length by rw [HL.out]; exact Nat.two_pow_pos k)
  have HW := hb1
  go_cut [7] from 10 to 70 (fun v7 wx => ∃ gp g1 g2 c1 c2, v7 = .pointer (some ⟨gp, 0, none⟩) ∧ Aside0 (hk_PE w0 w gp PD pd.length cd ud l0.length g1 g2 c1 c2 sc (List.replicate l0.length 0) wx))
  case first =>
    rcases HV.out with ⟨rfl, rfl, rfl⟩ | ⟨rfl, rfl, rfl⟩
    · have SX := Aside0.mk (show ∀ V, Below w.heap.size w V → V.cell? ⟨b, 1, none⟩ = some (.slice PD pd.length cd) ∧ V.cell? ⟨b, 3, none⟩ = some (.int .u64 ud) from fun V hV => ⟨hk_blk_cell (HX.out V (Kept.of_below hV S)) 1 _ rfl, hk_blk_cell (HX.out V (Kept.of_below hV S)) 3 _ rfl⟩)
      obtain ⟨sx1, sx2⟩ := SX.out _ HW.out
      go_region_held3 (fun V => V.cell? ⟨b, 1, none⟩ = some (.slice PD pd.length cd) ∧ V.cell? ⟨b, 3, none⟩ = some (.int .u64 ud)) (first | ((refine SX.out _ ?_; (with_reducible repeat (first | exact HW.out | apply below_alloc | apply below_drew)); done)) | go_keep) (first | (go_at_call 74; (with_reducible refine (hk_scale_new n g co l0.length l0 sc w0 _ S (Kd.R_below HO.out ?hw) HSC.out HSCL.out HP0.out).mono ?_); (case hw => (with_reducible repeat (first | exact HW.out | apply below_alloc | apply below_drew))); rintro e v ⟨gs, q, rfl, hge, hR, hbv⟩; have hge := Aside0.mk hge; have hR := Aside0.mk hR; have n0_ := Aside0.mk ((by (with_reducible repeat (first | exact HW.out | apply below_alloc | apply below_drew)) : Below w.heap.size w _).trans (hbv.mono (by have := HW.out.size; simp; omega))); have hbv := Aside0.mk hbv; have HW1 := HW; clear HW; have HW := n0_; clear n0_))
      all_goals (go_wp2_with fail)
      all_goals go_meet
      all_goals
        case rel =>
          first
            | (refine ⟨(v.alloc (.cells (hk_mz l0.length) 29)).heap.size, gs, v.heap.size, q, l0.length, (by simp), ⟨?_⟩⟩
               have hz := hk_mz_R (W := v) (base := w0.heap.size) (ok := fun j => j = v.heap.size) HLE.out (by have := HW.out.size; have := HB.out.size; omega) rfl
               have hlt := Kd.R_lt hR.out gs rfl
               have h1 := HW1.out.size
               have h2 := HB.out.size
               have h3 := hge.out
               simp only [World.size_drew] at h3
               exact hk_PE_mk HB.out (HW.out.alloc HW.out.size _) (by omega) (by have := HW.out.size; omega) (by omega) (Kd.R_lower (Kd.R_alloc hR.out _) (by simp only [World.size_drew]; omega)) hz)
            | (refine ⟨_, gs, w1.heap.size, q, l0.length, rfl, ⟨?_⟩⟩
               have hz := hk_mz_R (W := w1) (base := w0.heap.size) (ok := fun j => j = w1.heap.size) HLE.out (by have := hb1.out.size; have := HB.out.size; omega) rfl
               have h1 := hb1.out.size
               have h2 := HB.out.size
               have h3 := hge.out
               simp at h3
               exact hk_PE_mk HB.out HW.out (by omega) (by omega) (by omega) (Kd.R_lower hR.out (by simp; omega)) (Kd.R_below (Kd.R_drew hz) hbv.out))
    · have SX := Aside0.mk (show ∀ V, Below w.heap.size w V → V.cell? ⟨b, 2, none⟩ = some (.slice PD pd.length cd) ∧ V.cell? ⟨b, 4, none⟩ = some (.int .u64 ud) from fun V hV => ⟨hk_blk_cell (HX.out V (Kept.of_below hV S)) 2 _ rfl, hk_blk_cell (HX.out V (Kept.of_below hV S)) 4 _ rfl⟩)
      obtain ⟨sx1, sx2⟩ := SX.out _ HW.out
      go_region_held3 (fun V => V.cell? ⟨b, 2, none⟩ = some (.slice PD pd.length cd) ∧ V.cell? ⟨b, 4, none⟩ = some (.int .u64 ud)) (first | ((refine SX.out _ ?_; (with_reducible repeat (first | exact HW.out | apply below_alloc | apply below_drew)); done)) | go_keep) (first | (go_at_call 74; (with_reducible refine (hk_scale_new n g co l0.length l0 sc w0 _ S (Kd.R_below HO.out ?hw) HSC.out HSCL.out HP0.out).mono ?_); (case hw => (with_reducible repeat (first | exact HW.out | apply below_alloc | apply below_drew))); rintro e v ⟨gs, q, rfl, hge, hR, hbv⟩; have hge := Aside0.mk hge; have hR := Aside0.mk hR; have n0_ := Aside0.mk ((by (with_reducible repeat (first | exact HW.out | apply below_alloc | apply below_drew)) : Below w.heap.size w _).trans (hbv.mono (by have := HW.out.size; simp; omega))); have hbv := Aside0.mk hbv; have HW1 := HW; clear HW; have HW := n0_; clear n0_))
      all_goals (go_wp2_with fail)
      all_goals go_meet
      all_goals
        case rel =>
          first
            | (refine ⟨(v.alloc (.cells (hk_mz l0.length) 29)).heap.size, gs, v.heap.size, q, l0.length, (by simp), ⟨?_⟩⟩
               have hz := hk_mz_R (W := v) (base := w0.heap.size) (ok := fun j => j = v.heap.size) HLE.out (by have := HW.out.size; have := HB.out.size; omega) rfl
               have hlt := Kd.R_lt hR.out gs rfl
               have h1 := HW1.out.size
               have h2 := HB.out.size
               have h3 := hge.out
               simp only [World.size_drew] at h3
               exact hk_PE_mk HB.out (HW.out.alloc HW.out.size _) (by omega) (by have := HW.out.size; omega) (by omega) (Kd.R_lower (Kd.R_alloc hR.out _) (by simp only [World.size_drew]; omega)) hz)
            | (refine ⟨_, gs, w1.heap.size, q, l0.length, rfl, ⟨?_⟩⟩
               have hz := hk_mz_R (W := w1) (base := w0.heap.size) (ok := fun j => j = w1.heap.size) HLE.out (by have := hb1.out.size; have := HB.out.size; omega) rfl
               have h1 := hb1.out.size
               have h2 := HB.out.size
               have h3 := hge.out
               simp at h3
               exact hk_PE_mk HB.out HW.out (by omega) (by omega) (by omega) (Kd.R_lower hR.out (by simp; omega)) (Kd.R_below (Kd.R_drew hz) hbv.out))
  case rest =>
    obtain ⟨gp, g1, g2, c1, c2, rfl, HPE⟩ := hcut
    clear HMK hcond hc0 d1 d2 hb1 HW
    obtain ⟨⟨sf, df⟩, hkf, hfin⟩ := Option.bind_eq_some_iff.1 HH.out
    have HKF := Aside0.mk hkf
    have HFIN := Aside0.mk hfin
    clear hkf hfin
    go_wp2_with fail
    go_loopg [8, 9] (k / 2) (fun kq v8 v9 w' => ∃ (j nv sv : Nat) (src dst : List Int) (f1 f2 e1 e2 : Nat), v8 = .int .i64 (nv : Int) ∧ v9 = .int .i64 (sv : Int) ∧ Aside0 (kq + j = k / 2) ∧ Aside0 (nv = 2 ^ (k - 2 * j) ∧ sv = 4 ^ j) ∧ Aside0 (hk_k4s pd ud k sc j = some (src, dst)) ∧ Aside0 (src.length = l0.length) ∧ Aside0 (hk_PE w0 w gp PD pd.length cd ud l0.length f1 f2 e1 e2 src dst w'))
    case atStart => exact ⟨0, l0.length, 1, sc, _, g1, g2, c1, c2, rfl, rfl, ⟨by omega⟩, ⟨by rw [HL.out]; exact ⟨rfl, rfl⟩⟩, ⟨by unfold hk_k4s; rw [HSCL.out]⟩, HSCL, HPE⟩
    case round =>
      obtain ⟨j, nv, sv, src, dst, f1, f2, e1, e2, rfl, rfl, HJ, HNS, Hk, HSL, HP⟩ := hrel
      cases gk with
      | zero =>
        have ej : j = k / 2 := by have := HJ.out; omega
        rw [ej] at Hk HNS
        have hpr := Hk.out
        rw [HKF.out] at hpr
        injection hpr with hpr
        injection hpr with es ed
        subst es ed
        have HFIN2 := Aside0.mk HFIN.out
        clear ej
        by_cases hodd : k % 2 = 1
        · have hf := HFIN2.out
          rw [if_pos hodd, ← HNS.out.2] at hf
          have HF := Aside0.mk hf
          have hnv : nv = 2 := by rw [HNS.out.1, show k - 2 * (k / 2) = 1 by omega]
          subst hnv
          have hN2 : l0.length = 2 * sv := by
            have h5 := hk_pow_split (k := k) (j := k / 2) (by omega)
            rw [← HNS.out.1, ← HNS.out.2] at h5
            rw [HL.out, h5]
          have hsv : 0 < sv := by rw [HNS.out.2]; exact Nat.pow_pos (by omega)
          have H4 := Aside0.mk (And.intro hsv hN2)
          clear hodd hf hN2 hsv
          go_wp2_with (first | (go_at_call 81; (with_reducible refine (hk_half.PE sv gp PD cd ud l0.length f1 f2 e1 e2 pd.length sf df r w0 w _ HB.out HP.out HSL.out H4.out.1 H4.out.2 HLE.out HF.out).mono ?_); rintro e w3 ⟨rfl, hP3⟩; have cg := hk_blk_cell hP3.hX 2 _ rfl; have HU := Aside0.mk (Kd.R_below HO.out hP3.hW); have HC := Aside0.mk (Kd.R_reads' hP3.h1).2.2; have HCL := Aside0.mk (Kd.R_reads' hP3.h1).1.symm; have HPB := Aside0.mk hP3.hB; have HPW := Aside0.mk hP3.hW; clear hP3) | ((with_reducible refine hk_wpList_copy_whole (o := ⟨some 70, _, _, _, _, _⟩) rfl (.tmp 65) (.tmp 69) 22 29 rfl Try.underlying22 ?ci g l0.length co (some ⟨f2, 0, none⟩) e2 ?cd ?cs HU.out HC.out HCL.out HP0.out ?_); (case ci => rfl); (case cd => rfl); (case cs => rfl); intro w4 hR4 hg4; have hB4 := Aside0.mk (HPB.out.trans ⟨hg4.os, hg4.tape, hg4.output, hg4.size, fun q hq => hg4.block q (Nat.lt_of_lt_of_le hq HPB.out.size) (fun e => by have := GB.out; injection e with e; omega)⟩); have hK4 := Aside0.mk (Kept.of_grown hg4 (Kept.of_below HPW.out S) (fun q hq => .inl (by injection hq with hq; rw [← hq]; exact (HS.out g).2 rfl))); have hR4 := Aside0.mk hR4; clear hg4))
          go_ret
          exact ⟨rfl, hR4.out, hB4.out, hK4.out⟩
        · have hf := HFIN2.out
          rw [if_neg hodd] at hf
          have er := Option.some.inj hf
          subst er
          have hnv : nv = 1 := by rw [HNS.out.1, show k - 2 * (k / 2) = 0 by omega]
          subst hnv
          clear hodd hf
          have cg := hk_blk_cell HP.out.hX 2 _ rfl
          have HU := Aside0.mk (Kd.R_below HO.out HP.out.hW)
          have HC := Aside0.mk (Kd.R_reads' HP.out.h1).2.2
          have HCL := Aside0.mk (Kd.R_reads' HP.out.h1).1.symm
          have HPB := Aside0.mk HP.out.hB
          have HPW := Aside0.mk HP.out.hW
          go_wp2_with ((with_reducible refine hk_wpList_copy_whole (o := ⟨some 70, _, _, _, _, _⟩) rfl (.tmp 65) (.tmp 69) 22 29 rfl Try.underlying22 ?ci g l0.length co (some ⟨f1, 0, none⟩) e1 ?cd ?cs HU.out HC.out HCL.out HP0.out ?_); (case ci => rfl); (case cd => rfl); (case cs => rfl); intro w4 hR4 hg4; have hB4 := Aside0.mk (HPB.out.trans ⟨hg4.os, hg4.tape, hg4.output, hg4.size, fun q hq => hg4.block q (Nat.lt_of_lt_of_le hq HPB.out.size) (fun e => by have := GB.out; injection e with e; omega)⟩); have hK4 := Aside0.mk (Kept.of_grown hg4 (Kept.of_below HPW.out S) (fun q hq => .inl (by injection hq with hq; rw [← hq]; exact (HS.out g).2 rfl))); have hR4 := Aside0.mk hR4; clear hg4)
          go_ret
          exact ⟨rfl, hR4.out, hB4.out, hK4.out⟩
      | succ k2 =>
        have hj := HJ.out
        have hj2 : 2 * j + 2 ≤ k := by omega
        obtain ⟨x, hx⟩ : ∃ x, hk_k4s pd ud k sc (j + 1) = some x := hk_k4s_down (m := k2) (by rw [show j + 1 + k2 = k / 2 by omega]; exact HKF.out)
        have hx2 := hx
        unfold hk_k4s at hx2
        rw [Hk.out, Option.bind_some, ← HNS.out.1, ← HNS.out.2] at hx2
        obtain ⟨r2, hq, hx2⟩ := Option.bind_eq_some_iff.1 hx2
        have hx3 := Option.some.inj hx2
        subst hx3
        have HQ := Aside0.mk hq
        have HX3 := Aside0.mk hx
        have h4 : 4 ≤ nv := by rw [HNS.out.1]; exact hk_four_le hj2
        have hsv : 0 < sv := by rw [HNS.out.2]; exact Nat.pow_pos (by omega)
        have hNn : l0.length = nv * sv := by rw [HL.out, HNS.out.1, HNS.out.2]; exact hk_pow_split (by omega)
        have H4 := Aside0.mk (And.intro h4 (And.intro hsv hNn))
        have HJ2 := Aside0.mk hj2
        have c1 : decide (4 ≤ (nv : Int)) = true := decide_eq_true (by omega)
        have c2 : (4 ≤ nv) = True := eq_true h4
        clear hj hj2 hx hx2 hq h4 hsv hNn
        go_wp2_with (go_at_call 80; (with_reducible refine (hk_quarter.PE nv sv gp PD cd ud l0.length f1 f2 e1 e2 pd src dst r2 w0 w _ S HB.out HP.out HSL.out HT.out H4.out.2.1 H4.out.1 H4.out.2.2 HLE.out HPL.out.1 HPL.out.2 HQ.out).mono ?_); rintro e w3 ⟨rfl, hP3⟩; have HP3 := Aside0.mk hP3; clear hP3)
        have hr2 := (Kd.R_reads' HP3.out.h1).1
        have HR2 := Aside0.mk hr2
        have hnv : nv ≤ 1048576 := by have := H4.out.2.2; have := HLE.out; have h6 : nv ≤ nv * sv := Nat.le_mul_of_pos_right _ H4.out.2.1; omega
        have hsv2 : 4 * sv ≤ 1048576 := by have := H4.out.2.2; have := HLE.out; have h6 : 4 * sv ≤ nv * sv := Nat.mul_le_mul_right _ H4.out.1; omega
        have HNV := Aside0.mk (And.intro hnv hsv2)
        clear hr2 hnv hsv2 c1 c2
        go_roundg k2
        case measure => omega
        case rel =>
          refine ⟨j + 1, nv / 4, 4 * sv, r2, src, f2, f1, e2, e1, ?_, ?_, ⟨by have := HJ.out; omega⟩, ⟨?_⟩, HX3, ⟨HR2.out.symm⟩, HP3⟩
          · rw [show wrap64 ((nv : Int) / 4) = ((nv / 4 : Nat) : Int) by rw [← i64_w]; exact hk_wn (z := nv / 4) (by have := HNV.out.1; omega)]
          · rw [show wrap64 (4 * (sv : Int)) = ((4 * sv : Nat) : Int) by rw [← i64_w]; exact hk_wn (z := 4 * sv) HNV.out.2]
          · exact ⟨by rw [HNS.out.1]; exact hk_pow_quarter HJ2.out, by rw [HNS.out.2, Nat.pow_succ]; omega⟩

/-! ### kern4_Kernel_Run: function 71 (by hand) -/
theorem hk4_scale_at (k : Nat) (A0 : Option Addr) (c0 m : Nat) (l0 : List Int) (a1 : Int) (r : List Int) (w : World) (hm : m = l0.length) (hr0 : Kd.C (Kd.int .u64) w A0 l0.length l0) (hc0 : l0.length ≤ c0) (h : twid_Scale.f k l0 a1 = some r) :
    Calls Try.prog 74 #[.slice A0 m c0, .int .u64 a1] w fun e w' => ∃ v0_ : Value, e = .returned (v0_) ∧ Kd.R (Kd.int .u64) 29 w' w.heap.size (fun _ => True) v0_ r ∧ Below w.heap.size w w' := by
  subst hm
  exact twid_Scale.calls k A0 c0 l0 a1 r w hr0 hc0 h
set_option maxHeartbeats 800000 in
set_option maxRecDepth 100000 in
theorem kern4_Run.calls (n k : Nat) (hk : k ≤ 20) (u : Value) (l0 pd sc r : List Int) (b b2 : Nat) (v0 v1 x0 x1 x2 : Value) (u0 u1 ud s d : Int) (PD : Option Addr) (cd : Nat) (S : Nat → Prop) (hS : ∀ j, S j ↔ u.ownBlock = some j) (w0 w : World) (hB : Below w0.heap.size w0 w)
    (ho0 : Kd.R (Kd.int .u64) 29 w w0.heap.size S u l0)
    (hX : ∀ W, Kept w W S → W.heap[b]? = some (.cells #[.pointer (some ⟨b2, 0, none⟩), v0, v1, .int .u64 u0, .int .u64 u1, .int .u64 s] 92 (0, 0)))
    (hX2 : ∀ W, Kept w W S → W.heap[b2]? = some (.cells #[x0, x1, x2, .int .i64 (k : Int)] 104 (0, 0)))
    (hT : ∀ W, Kept w W S → Kd.C (Kd.int .u64) W PD pd.length pd)
    (hv : (d = 0 ∧ v0 = .slice PD pd.length cd ∧ ud = u0) ∨ (d = 1 ∧ v1 = .slice PD pd.length cd ∧ ud = u1))
    (hl : l0.length = 2 ^ k) (hsc : twid_Scale.f n l0 1 = some sc) (hscl : sc.length = l0.length) (hpl : l0.length ≤ pd.length) (hpl2 : pd.length ≤ 1048576) (h : hk_k4r pd ud k sc = some r) (rr : List Int) (h2 : (d = 0 ∧ rr = r) ∨ (d = 1 ∧ twid_Scale.f n r s = some rr ∧ rr.length = r.length)) :
    Calls Try.prog 71 #[.pointer (some ⟨b, 0, none⟩), u, .int .i64 d] w fun e w' => e = .returned (.int .i64 0) ∧ Kd.R (Kd.int .u64) 29 w' w0.heap.size S u rr ∧ Below w0.heap.size w0 w' ∧ Kept w w' S := by
  have C := Aside0.mk (kern4_Plain.calls n k hk u l0 pd sc r b b2 v0 v1 x0 x1 x2 u0 u1 ud s d PD cd S hS w0 w hB ho0 hX hX2 hT hv hl hsc hscl hpl hpl2 h)
  obtain ⟨g, co, eo, gb, gl, cl, hGG⟩ := Kd.R_form ho0 (by rw [hl]; exact Nat.two_pow_pos k)
  subst eo
  have HX := Aside0.mk hX
  have HP := Aside0.mk (show 0 < l0.length by rw [hl]; exact Nat.two_pow_pos k)
  have HSG := Aside0.mk (show S g from (hS g).2 rfl)
  have GB := Aside0.mk gb
  have H2 := Aside0.mk h2
  clear hk hB hX hX2 hT hl hsc hscl ho0 gb gl hGG hS hv hpl hpl2 h h2
  rcases H2.out with ⟨rfl, rfl⟩ | ⟨rfl, h2, hr2⟩
  · clear H2
    go_enter Try.func71, Try.ntmps71
    go_wp2_with (go_at_call 73; (with_reducible refine (C.out).mono ?_); rintro e w1 ⟨rfl, hR, hB, hK⟩; have hR := Aside0.mk hR; have hB := Aside0.mk hB; have hK := Aside0.mk hK)
    go_ret
    exact ⟨rfl, hR.out, hB.out, hK.out⟩
  · have HR2 := Aside0.mk hr2
    have HS2 := Aside0.mk h2
    clear H2 hr2 h2
    go_enter Try.func71, Try.ntmps71
    go_wp2_with (first | (go_at_call 73; (with_reducible refine (C.out).mono ?_); rintro e w1 ⟨rfl, hR, hB, hK⟩; have hc2 := hk_blk_cell (HX.out _ hK) 5 _ rfl; have hR := Aside0.mk hR; have hB := Aside0.mk hB; have hK := Aside0.mk hK) | (go_at_call 74; (with_reducible refine (hk4_scale_at n (some ⟨g, 0, none⟩) co l0.length r s rr _ (Kd.R_reads' hR.out).1 (Kd.R_reads' hR.out).2.2 ?hco HS2.out).mono ?_); (case hco => have h1 := Kd.R_reads' hR.out; omega); rintro e w3 ⟨vs, rfl, hs3, hb3⟩; obtain ⟨As, cs_, ev⟩ := Kd.R_slice hs3; rw [show rr.length = l0.length from HR2.out.trans (Kd.R_reads' hR.out).1.symm] at ev; subst ev; have hR3 := Aside0.mk (Kd.R_below hR.out hb3); have hB3 := Aside0.mk (hB.out.trans (hb3.mono hB.out.size)); have hK3 := Aside0.mk (hK.out.below hb3); have hs3 := Aside0.mk (Kd.R_reads' hs3).2.2; clear hb3) | ((with_reducible refine hk_wpList_copy_whole (o := ⟨some 25, _, _, _, _, _⟩) rfl (.tmp 18) (.tmp 24) 22 29 rfl Try.underlying22 ?ci g l0.length co As cs_ ?cd ?cs hR3.out hs3.out ?cl HP.out ?_); (case ci => rfl); (case cd => rfl); (case cs => rfl); (case cl => exact HR2.out.trans (Kd.R_reads' hR3.out).1.symm); intro w4 hR4 hg4; have hB4 := Aside0.mk (hB3.out.trans ⟨hg4.os, hg4.tape, hg4.output, hg4.size, fun q hq => hg4.block q (Nat.lt_of_lt_of_le hq hB3.out.size) (fun e => by have := GB.out; injection e with e; omega)⟩); have hK4 := Aside0.mk (Kept.of_grown hg4 hK3.out (fun q hq => .inl (by injection hq with hq; rw [← hq]; exact HSG.out))); have hR4 := Aside0.mk hR4; clear hg4))
    go_ret
    exact ⟨rfl, hR4.out, hB4.out, hK4.out⟩
/-- What a transform by quarters makes, undivided (plain) or as it is. -/
def hk_run4 (n k : Nat) (t0 t1 : List Int) (u0 u1 s d : Int) (plain : Bool) (l0 rr : List Int) : Prop :=
  ∃ sc r, (d = 0 ∨ d = 1) ∧ twid_Scale.f n l0 1 = some sc ∧ sc.length = l0.length ∧ l0.length = 2 ^ k ∧ (if d = 0 then t0 else t1).length = 2 ^ k ∧ hk_k4r (if d = 0 then t0 else t1) (if d = 0 then u0 else u1) k sc = some r ∧ (((plain = true ∨ d = 0) ∧ rr = r) ∨ (plain = false ∧ d = 1 ∧ twid_Scale.f n r s = some rr ∧ rr.length = r.length))
theorem hk_Run4.use (n k : Nat) (hk : k ≤ 20) (u : Value) (l0 rr t0 t1 : List Int) (u0 u1 s d : Int) (lo hi b : Nat) (plain : Bool) (w0 w : World) (hB : Below w0.heap.size w0 w) (K : hk_K4 k t0 t1 u0 u1 s lo hi b w)
    (ho : Kd.R (Kd.int .u64) 29 w w0.heap.size (fun _ => True) u l0) (hu : ∀ j, u.ownBlock = some j → j < lo ∨ hi ≤ j) (h : hk_run4 n k t0 t1 u0 u1 s d plain l0 rr) :
    Calls Try.prog (if plain = true then 73 else 71) #[.pointer (some ⟨b, 0, none⟩), u, .int .i64 d] w fun e w' => e = .returned (.int .i64 0) ∧ Kd.R (Kd.int .u64) 29 w' w0.heap.size (fun _ => True) u rr ∧ Below w0.heap.size w0 w' ∧ Kept w w' (fun j => u.ownBlock = some j) := by
  obtain ⟨sc, r, hd, hsc, hscl, hl, hpl, hr, h2⟩ := h
  obtain ⟨⟨h0, h1⟩, b2, v0, v1, x0, x1, x2, hb2, hX, hX2, hR0, hR1⟩ := K
  have hp20 : 2 ^ k ≤ 1048576 := Nat.pow_le_pow_right (n := 2) (by omega) hk
  have far : ∀ j, lo ≤ j → j < hi → ¬ u.ownBlock = some j := fun j hl hj e => by have := hu j e; omega
  have hoS : Kd.R (Kd.int .u64) 29 w w0.heap.size (fun j => u.ownBlock = some j) u l0 := Kd.R_flat (fun h => h) ho (fun q hq _ => hq)
  obtain ⟨D0, m0, rfl⟩ := Kd.R_slice hR0
  obtain ⟨D1, m1, rfl⟩ := Kd.R_slice hR1
  have key : ∀ (pd : List Int) (ud : Int) (PD : Option Addr) (cd : Nat), pd.length = 2 ^ k → hk_k4r pd ud k sc = some r → Kd.R (Kd.int .u64) 29 w lo (fun j => j < hi) (.slice PD pd.length cd) pd → ((d = 0 ∧ (Value.slice D0 t0.length m0) = .slice PD pd.length cd ∧ ud = u0) ∨ (d = 1 ∧ (Value.slice D1 t1.length m1) = .slice PD pd.length cd ∧ ud = u1)) →
      Calls Try.prog (if plain = true then 73 else 71) #[.pointer (some ⟨b, 0, none⟩), u, .int .i64 d] w fun e w' => e = .returned (.int .i64 0) ∧ Kd.R (Kd.int .u64) 29 w' w0.heap.size (fun _ => True) u rr ∧ Below w0.heap.size w0 w' ∧ Kept w w' (fun j => u.ownBlock = some j) := by
    intro pd ud PD cd hpd hr hR hv
    have hT : ∀ W, Kept w W (fun j => u.ownBlock = some j) → Kd.C (Kd.int .u64) W PD pd.length pd := Kd.C_kept_own (S := fun j => u.ownBlock = some j) (Kd.R_bound hR) (fun q hq => far q hq.2.1 hq.1)
    cases plain with
    | true =>
      rw [if_pos rfl]
      rcases h2 with ⟨_, rfl⟩ | ⟨hf, _⟩
      · refine (kern4_Plain.calls n k hk u l0 pd sc rr b b2 _ _ x0 x1 x2 u0 u1 ud s d PD cd (fun j => u.ownBlock = some j) (fun _ => Iff.rfl) w0 w hB hoS (fun W hW => blk_kept hX hW (far _ h0 h1)) (fun W hW => blk_kept hX2 hW (far _ hb2.1 hb2.2)) hT hv hl hsc hscl (by omega) (by omega) hr).mono ?_
        rintro e w' ⟨he, hR', hB', hK'⟩
        exact ⟨he, Kd.R_mono hR' (fun _ _ => trivial), hB', hK'⟩
      · cases hf
    | false =>
      rw [if_neg (by decide)]
      refine (kern4_Run.calls n k hk u l0 pd sc r b b2 _ _ x0 x1 x2 u0 u1 ud s d PD cd (fun j => u.ownBlock = some j) (fun _ => Iff.rfl) w0 w hB hoS (fun W hW => blk_kept hX hW (far _ h0 h1)) (fun W hW => blk_kept hX2 hW (far _ hb2.1 hb2.2)) hT hv hl hsc hscl (by omega) (by omega) hr rr ?_).mono ?_
      · rcases h2 with ⟨hq | hq, e⟩ | ⟨_, hq, e⟩
        · cases hq
        · exact .inl ⟨hq, e⟩
        · exact .inr ⟨hq, e⟩
      · rintro e w' ⟨he, hR', hB', hK'⟩
        exact ⟨he, Kd.R_mono hR' (fun _ _ => trivial), hB', hK'⟩
  rcases hd with rfl | rfl
  · exact key t0 u0 D0 m0 hpl hr hR0 (.inl ⟨rfl, rfl, rfl⟩)
  · exact key t1 u1 D1 m1 hpl hr hR1 (.inr ⟨rfl, rfl, rfl⟩)
theorem hk_Run4.run (n k : Nat) (hk : k ≤ 20) (u : Value) (l0 rr t0 t1 : List Int) (u0 u1 s d : Int) (lo b : Nat) (w2 w : World) (H2 : Below w2.heap.size w2 w) (K : hk_K4 k t0 t1 u0 u1 s lo w2.heap.size b w2)
    (ho : Kd.R (Kd.int .u64) 29 w w2.heap.size (fun _ => True) u l0) (h : hk_run4 n k t0 t1 u0 u1 s d false l0 rr) :
    Calls Try.prog 71 #[.pointer (some ⟨b, 0, none⟩), u, .int .i64 d] w fun e w' => e = .returned (.int .i64 0) ∧ Kd.R (Kd.int .u64) 29 w' w2.heap.size (fun _ => True) u rr ∧ Below w2.heap.size w2 w' ∧ Kept w w' (fun j => u.ownBlock = some j) := by
  have h := hk_Run4.use n k hk u l0 rr t0 t1 u0 u1 s d lo w2.heap.size b false w2 w H2 (K.below H2) ho (fun j hj => .inr ((Kd.R_bound ho).1 j hj).2.1) h
  rw [if_neg (by decide)] at h
  exact h
theorem hk_Run4.plain (n k : Nat) (hk : k ≤ 20) (u : Value) (l0 rr t0 t1 : List Int) (u0 u1 s d : Int) (lo b : Nat) (w2 w : World) (H2 : Below w2.heap.size w2 w) (K : hk_K4 k t0 t1 u0 u1 s lo w2.heap.size b w2)
    (ho : Kd.R (Kd.int .u64) 29 w w2.heap.size (fun _ => True) u l0) (h : hk_run4 n k t0 t1 u0 u1 s d true l0 rr) :
    Calls Try.prog 73 #[.pointer (some ⟨b, 0, none⟩), u, .int .i64 d] w fun e w' => e = .returned (.int .i64 0) ∧ Kd.R (Kd.int .u64) 29 w' w2.heap.size (fun _ => True) u rr ∧ Below w2.heap.size w2 w' ∧ Kept w w' (fun j => u.ownBlock = some j) := by
  have h := hk_Run4.use n k hk u l0 rr t0 t1 u0 u1 s d lo w2.heap.size b true w2 w H2 (K.below H2) ho (fun j hj => .inr ((Kd.R_bound ho).1 j hj).2.1) h
  rw [if_pos rfl] at h
  exact h

/-! ### gold_Pow: function 52 -/
def gold_Pow.l0 : Nat → Int → Int → Int → Option (Int)
  | 0, _, _, _ => none
  | k + 1, x1, x5, x6 => if x1 > 0 then (if (Go.bits .and .u64 x1 1) = 1 then ((gold_Mul.f x5 x6).bind fun t145 => ((gold_Mul.f x6 x6).bind fun t146 => (gold_Pow.l0 k (x1 / 2) t145 t146))) else ((gold_Mul.f x6 x6).bind fun t147 => (gold_Pow.l0 k (x1 / 2) x5 t147))) else (some x5)
def gold_Pow.f (k : Nat) (a0 : Int) (a1 : Int) : Option (Int) := (gold_Of.f a0).bind fun t144 => (gold_Pow.l0 k a1 1 t144)
set_option maxHeartbeats 8000000 in
set_option maxRecDepth 100000 in
theorem gold_Pow.calls (k : Nat) (a0 : Int) (a1 : Int) (r : Int) (w : World) (h : gold_Pow.f k a0 a1 = some r) :
    Calls Try.prog 52 #[.int .u64 a0, .int .u64 a1] w fun e w' => e = .returned (.int .u64 r) ∧ Below w.heap.size w w' := by
  have HB := Aside0.mk (Below.refl w.heap.size w)
  have H : ((gold_Of.f a0).bind fun t144 => (gold_Pow.l0 k a1 1 t144)) = some r := h
  clear h
  replace H := Option.bind_eq_some_iff.mp H
  obtain ⟨t144, A30, H⟩ := H
  replace H : (gold_Pow.l0 k a1 1 t144) = some r := H
  have A3 := Aside0.mk A30
  clear A30
  have H' := Aside0.mk H
  clear H
  go_enter Try.func52, Try.ntmps52
  go_wp2_with (first | ((with_reducible refine gate_callee (f := 23) rfl ?_); refine goesL_ (some 8) rfl rfl Try.func23 (by kernel_rfl) rfl #[.int .u64 a0] rfl (by (try simp only [List.map_toArray, List.map_cons, List.map_nil]); first | done | rfl | (simp only [List.length_drop, List.length_take]; rfl)) ?_; (with_reducible refine (gold_Of.calls a0 t144 _ A3.out).mono ?_); rintro e w' ⟨rfl, ⟨nd, rfl⟩⟩; refine ⟨_, rfl, ?_⟩))
  go_loopg [1, 5, 6] k (fun kq v1 v5 v6 w' => ∃ (x1_1 : Int) (x5_1 : Int) (x6_1 : Int), v1 = .int .u64 x1_1 ∧ v5 = .int .u64 x5_1 ∧ v6 = .int .u64 x6_1 ∧ Aside0 (gold_Pow.l0 kq x1_1 x5_1 x6_1 = some r) ∧ Aside0 (kq ≤ k) ∧ Aside0 (Below w.heap.size w w'))
  case atStart => exact ⟨(a1), (1), (t144), (by first | rfl | (simp; done) | (simp [*]; done)), (by first | rfl | (simp; done) | (simp [*]; done)), (by first | rfl | (simp; done) | (simp [*]; done)), H', ⟨Nat.le_refl _⟩, ⟨by repeat (first | (with_reducible first | exact HB.out | apply below_alloc | apply pw_below_drewN | apply below_drew1) | exact HB.out)⟩⟩
  case round =>
    clear H'
    try clear c2
    try clear p2
    obtain ⟨x1_1, x5_1, x6_1, rfl, rfl, rfl, HA, HK1, HB⟩ := hrel
    cases gk with
    | zero => exact absurd HA.out (by simp [gold_Pow.l0])
    | succ k1 =>
      have H := HA.out
      clear HA
      simp only [gold_Pow.l0] at H
      by_cases c4 : x1_1 > 0
      · rw [if_pos c4] at H
        have c4b0 : decide (0 < x1_1) = true := decide_eq_true c4
        clear c4
        by_cases c5 : (Go.bits .and .u64 x1_1 1) = 1
        · rw [if_pos c5] at H
          have c5b0 : ((Go.bits .and .u64 x1_1 1) == 1) = true := beq_iff_eq.mpr c5
          have c5b1 : ((Go.bits .and .u64 x1_1 1) != 1) = false := bne_eq_false_iff_eq.mpr c5
          clear c5
          replace H := Option.bind_eq_some_iff.mp H
          obtain ⟨t145, A60, H⟩ := H
          replace H : ((gold_Mul.f x6_1 x6_1).bind fun t146 => (gold_Pow.l0 k1 (x1_1 / 2) t145 t146)) = some r := H
          have A6 := Aside0.mk A60
          clear A60
          replace H := Option.bind_eq_some_iff.mp H
          obtain ⟨t146, A70, H⟩ := H
          replace H : (gold_Pow.l0 k1 (x1_1 / 2) t145 t146) = some r := H
          have A7 := Aside0.mk A70
          clear A70
          have H' := Aside0.mk H
          clear H
          go_wp2_with (first | ((with_reducible refine gate_callee (f := 28) rfl ?_); refine goesL_ (some 18) rfl rfl Try.func28 (by kernel_rfl) rfl #[.int .u64 x5_1, .int .u64 x6_1] rfl (by (try simp only [List.map_toArray, List.map_cons, List.map_nil]); first | done | rfl | (simp only [List.length_drop, List.length_take]; rfl)) ?_; (with_reducible refine (gold_Mul.calls x5_1 x6_1 t145 _ A6.out).mono ?_); rintro e w8 ⟨rfl, hb⟩; refine ⟨_, rfl, ?_⟩; have n0_ := Aside0.mk (below_step (by repeat (first | (with_reducible first | exact HB.out | apply below_alloc | apply pw_below_drewN | apply below_drew1) | exact HB.out)) hb); clear HB; have HB := n0_; clear n0_; (try clear hb); (try clear hb2); (try clear hk); (try clear hi)) | ((with_reducible refine gate_callee (f := 28) rfl ?_); refine goesL_ (some 21) rfl rfl Try.func28 (by kernel_rfl) rfl #[.int .u64 x6_1, .int .u64 x6_1] rfl (by (try simp only [List.map_toArray, List.map_cons, List.map_nil]); first | done | rfl | (simp only [List.length_drop, List.length_take]; rfl)) ?_; (with_reducible refine (gold_Mul.calls x6_1 x6_1 t146 _ A7.out).mono ?_); rintro e w9 ⟨rfl, hb⟩; refine ⟨_, rfl, ?_⟩; have n0_ := Aside0.mk (below_step (by repeat (first | (with_reducible first | exact HB.out | apply below_alloc | apply pw_below_drewN | apply below_drew1) | exact HB.out)) hb); clear HB; have HB := n0_; clear n0_; (try clear hb); (try clear hb2); (try clear hk); (try clear hi)))
          (first | go_roundg k1 | (simp only [add_plain] at *; go_roundg k1))
          case measure => have := HK1.out; omega
          case rel => exact ⟨(x1_1 / 2), (t145), (t146), (by first | rfl | (simp; done) | (simp [*]; done)), (by first | rfl | (simp; done) | (simp [*]; done)), (by first | rfl | (simp; done) | (simp [*]; done)), H', ⟨by have := HK1.out; omega⟩, ⟨by repeat (first | (with_reducible first | exact HB.out | apply below_alloc | apply pw_below_drewN | apply below_drew1) | exact HB.out)⟩⟩
        · rw [if_neg c5] at H
          have c5b0 : ((Go.bits .and .u64 x1_1 1) == 1) = false := beq_eq_false_iff_ne.mpr c5
          have c5b1 : ((Go.bits .and .u64 x1_1 1) != 1) = true := bne_iff_ne.mpr c5
          replace H := Option.bind_eq_some_iff.mp H
          obtain ⟨t147, A100, H⟩ := H
          replace H : (gold_Pow.l0 k1 (x1_1 / 2) x5_1 t147) = some r := H
          have A10 := Aside0.mk A100
          clear A100
          have H' := Aside0.mk H
          clear H
          go_wp2_with (first | ((with_reducible refine gate_callee (f := 28) rfl ?_); refine goesL_ (some 21) rfl rfl Try.func28 (by kernel_rfl) rfl #[.int .u64 x6_1, .int .u64 x6_1] rfl (by (try simp only [List.map_toArray, List.map_cons, List.map_nil]); first | done | rfl | (simp only [List.length_drop, List.length_take]; rfl)) ?_; (with_reducible refine (gold_Mul.calls x6_1 x6_1 t147 _ A10.out).mono ?_); rintro e w11 ⟨rfl, hb⟩; refine ⟨_, rfl, ?_⟩; have n0_ := Aside0.mk (below_step (by repeat (first | (with_reducible first | exact HB.out | apply below_alloc | apply pw_below_drewN | apply below_drew1) | exact HB.out)) hb); clear HB; have HB := n0_; clear n0_; (try clear hb); (try clear hb2); (try clear hk); (try clear hi)))
          (first | go_roundg k1 | (simp only [add_plain] at *; go_roundg k1))
          case measure => have := HK1.out; omega
          case rel => exact ⟨(x1_1 / 2), (x5_1), (t147), (by first | rfl | (simp; done) | (simp [*]; done)), (by first | rfl | (simp; done) | (simp [*]; done)), (by first | rfl | (simp; done) | (simp [*]; done)), H', ⟨by have := HK1.out; omega⟩, ⟨by repeat (first | (with_reducible first | exact HB.out | apply below_alloc | apply pw_below_drewN | apply below_drew1) | exact HB.out)⟩⟩
      · rw [if_neg c4] at H
        have c4b0 : decide (0 < x1_1) = false := decide_eq_false c4
        clear c4
        obtain rfl := Option.some.inj H
        go_wp2
        go_ret
        exact ⟨by first | rfl | (simp [errW_none, errW_some] <;> rfl) | (simp [*, errW_none, errW_some] <;> rfl), by repeat (first | (with_reducible first | exact HB.out | apply below_alloc | apply pw_below_drewN | apply below_drew1) | exact HB.out)⟩

/-! ### gold_Inv: function 42 -/
def gold_Inv.f (k : Nat) (a0 : Int) : Option (Int × Int) := (gold_Of.f a0).bind fun t148 => (if t148 = 0 then (some (0, 13)) else ((gold_Pow.f k a0 18446744069414584319).bind fun t149 => (some (t149, 0))))
set_option maxHeartbeats 8000000 in
set_option maxRecDepth 100000 in
theorem gold_Inv.calls (k : Nat) (a0 : Int) (r1 : Int) (r2 : Int) (w : World) (h : gold_Inv.f k a0 = some (r1, r2)) :
    Calls Try.prog 42 #[.int .u64 a0] w fun e w' => e = .returned (.tuple #[.int .u64 r1, .int .i64 r2]) ∧ Below w.heap.size w w' := by
  have HB := Aside0.mk (Below.refl w.heap.size w)
  have H : ((gold_Of.f a0).bind fun t148 => (if t148 = 0 then (some (0, 13)) else ((gold_Pow.f k a0 18446744069414584319).bind fun t149 => (some (t149, 0))))) = some (r1, r2) := h
  clear h
  replace H := Option.bind_eq_some_iff.mp H
  obtain ⟨t148, A20, H⟩ := H
  replace H : (if t148 = 0 then (some (0, 13)) else ((gold_Pow.f k a0 18446744069414584319).bind fun t149 => (some (t149, 0)))) = some (r1, r2) := H
  have A2 := Aside0.mk A20
  clear A20
  by_cases c3 : t148 = 0
  · rw [if_pos c3] at H
    have c3b0 : (t148 == 0) = true := beq_iff_eq.mpr c3
    have c3b1 : (t148 != 0) = false := bne_eq_false_iff_eq.mpr c3
    clear c3
    simp only [Option.some.injEq, Prod.mk.injEq] at H
    obtain ⟨rfl, rfl⟩ := H
    go_enter Try.func42, Try.ntmps42
    go_wp2_with (first | ((with_reducible refine gate_callee (f := 23) rfl ?_); refine goesL_ (some 5) rfl rfl Try.func23 (by kernel_rfl) rfl #[.int .u64 a0] rfl (by (try simp only [List.map_toArray, List.map_cons, List.map_nil]); first | done | rfl | (simp only [List.length_drop, List.length_take]; rfl)) ?_; (with_reducible refine (gold_Of.calls a0 t148 _ A2.out).mono ?_); rintro e w' ⟨rfl, ⟨nd, rfl⟩⟩; refine ⟨_, rfl, ?_⟩))
    go_ret2
    exact ⟨by first | rfl | (simp [errW_none, errW_some] <;> rfl) | (simp [*, errW_none, errW_some] <;> rfl), by repeat (first | (with_reducible first | exact HB.out | apply below_alloc | apply pw_below_drewN | apply below_drew1) | exact HB.out)⟩
  · rw [if_neg c3] at H
    have c3b0 : (t148 == 0) = false := beq_eq_false_iff_ne.mpr c3
    have c3b1 : (t148 != 0) = true := bne_iff_ne.mpr c3
    replace H := Option.bind_eq_some_iff.mp H
    obtain ⟨t149, A40, H⟩ := H
    replace H : (some (t149, 0)) = some (r1, r2) := H
    have A4 := Aside0.mk A40
    clear A40
    simp only [Option.some.injEq, Prod.mk.injEq] at H
    obtain ⟨rfl, rfl⟩ := H
    go_enter Try.func42, Try.ntmps42
    go_wp2_with (first | ((with_reducible refine gate_callee (f := 23) rfl ?_); refine goesL_ (some 5) rfl rfl Try.func23 (by kernel_rfl) rfl #[.int .u64 a0] rfl (by (try simp only [List.map_toArray, List.map_cons, List.map_nil]); first | done | rfl | (simp only [List.length_drop, List.length_take]; rfl)) ?_; (with_reducible refine (gold_Of.calls a0 t148 _ A2.out).mono ?_); rintro e w' ⟨rfl, ⟨nd, rfl⟩⟩; refine ⟨_, rfl, ?_⟩) | ((with_reducible refine gate_callee (f := 52) rfl ?_); refine goesL_ (some 8) rfl rfl Try.func52 (by kernel_rfl) rfl #[.int .u64 a0, .int .u64 18446744069414584319] rfl (by (try simp only [List.map_toArray, List.map_cons, List.map_nil]); first | done | rfl | (simp only [List.length_drop, List.length_take]; rfl)) ?_; (with_reducible refine (gold_Pow.calls k a0 18446744069414584319 t149 _ A4.out).mono ?_); rintro e w5 ⟨rfl, hb⟩; refine ⟨_, rfl, ?_⟩; have n0_ := Aside0.mk (below_step (by repeat (first | (with_reducible first | exact HB.out | apply below_alloc | apply pw_below_drewN | apply below_drew1) | exact HB.out)) hb); clear HB; have HB := n0_; clear n0_; (try clear hb); (try clear hb2); (try clear hk); (try clear hi)))
    go_ret2
    exact ⟨by first | rfl | (simp [errW_none, errW_some] <;> rfl) | (simp [*, errW_none, errW_some] <;> rfl), by repeat (first | (with_reducible first | exact HB.out | apply below_alloc | apply pw_below_drewN | apply below_drew1) | exact HB.out)⟩

/-! ### twid_Share: function 78 -/
def twid_Share.f (k : Nat) (a0 : Int) : Option (Int × Int) := if a0 < 0 then (some (0, 1)) else (if a0 > 32 then (some (0, 1)) else (if 0 ≤ (IntKind.u64.wrap (a0)) then ((gold_Inv.f k (shl .u64 1 (IntKind.u64.wrap (a0)))).bind fun bt150 => (some (bt150.1, bt150.2))) else (none)))
set_option maxHeartbeats 8000000 in
set_option maxRecDepth 100000 in
theorem twid_Share.calls (k : Nat) (a0 : Int) (r1 : Int) (r2 : Int) (w : World) (h : twid_Share.f k a0 = some (r1, r2)) :
    Calls Try.prog 78 #[.int .i64 a0] w fun e w' => e = .returned (.tuple #[.int .u64 r1, .int .i64 r2]) ∧ Below w.heap.size w w' := by
  have HB := Aside0.mk (Below.refl w.heap.size w)
  have H : (if a0 < 0 then (some (0, 1)) else (if a0 > 32 then (some (0, 1)) else (if 0 ≤ (IntKind.u64.wrap (a0)) then ((gold_Inv.f k (shl .u64 1 (IntKind.u64.wrap (a0)))).bind fun bt150 => (some (bt150.1, bt150.2))) else (none)))) = some (r1, r2) := h
  clear h
  by_cases c2 : a0 < 0
  · rw [if_pos c2] at H
    have c2b0 : decide (a0 < 0) = true := decide_eq_true c2
    clear c2
    simp only [Option.some.injEq, Prod.mk.injEq] at H
    obtain ⟨rfl, rfl⟩ := H
    go_enter Try.func78, Try.ntmps78
    go_wp2
    go_ret2
    exact ⟨by first | rfl | (simp [errW_none, errW_some] <;> rfl) | (simp [*, errW_none, errW_some] <;> rfl), by repeat (first | (with_reducible first | exact HB.out | apply below_alloc | apply pw_below_drewN | apply below_drew1) | exact HB.out)⟩
  · rw [if_neg c2] at H
    have c2b0 : decide (a0 < 0) = false := decide_eq_false c2
    clear c2
    by_cases c3 : a0 > 32
    · rw [if_pos c3] at H
      have c3b0 : decide (32 < a0) = true := decide_eq_true c3
      clear c3
      simp only [Option.some.injEq, Prod.mk.injEq] at H
      obtain ⟨rfl, rfl⟩ := H
      go_enter Try.func78, Try.ntmps78
      go_wp2
      go_ret2
      exact ⟨by first | rfl | (simp [errW_none, errW_some] <;> rfl) | (simp [*, errW_none, errW_some] <;> rfl), by repeat (first | (with_reducible first | exact HB.out | apply below_alloc | apply pw_below_drewN | apply below_drew1) | exact HB.out)⟩
    · rw [if_neg c3] at H
      have c3b0 : decide (32 < a0) = false := decide_eq_false c3
      clear c3
      obtain ⟨ji4, hji4⟩ : ∃ j_ : Int, (IntKind.u64.wrap (a0)) = j_ := ⟨_, rfl⟩
      replace H : (if 0 ≤ (ji4) then ((gold_Inv.f k (shl .u64 1 (ji4))).bind fun bt150 => (some (bt150.1, bt150.2))) else (none)) = some (r1, r2) := by first | (rw [hji4] at H; exact H) | (simp only [hji4] at H ⊢; exact H)
      by_cases c5 : 0 ≤ (ji4)
      · rw [if_pos c5] at H
        have c5b0 := eq_true c5
        have c5b1 : decide (0 ≤ (ji4)) = true := decide_eq_true c5
        clear c5
        obtain ⟨ji6, hji6⟩ : ∃ j_ : Int, (shl .u64 1 (ji4)) = j_ := ⟨_, rfl⟩
        replace H : ((gold_Inv.f k (ji6)).bind fun bt150 => (some (bt150.1, bt150.2))) = some (r1, r2) := by first | (rw [hji6] at H; exact H) | (simp only [hji6] at H ⊢; exact H)
        have hji6_ : (IntKind.u64.wrap (1 * 2 ^ min (ji4).toNat 64)) = ji6 := hji6
        have hji6z : (ji4) ≤ 64 → (IntKind.u64.wrap (1 * 2 ^ (ji4).toNat)) = ji6 := shl_small hji6
        have hji6u : (IntKind.u64.wrap (2 ^ min (ji4).toNat 64)) = ji6 := by have h_ := hji6_; rw [Int.one_mul] at h_; exact h_
        have hji6v : (ji4) ≤ 64 → (IntKind.u64.wrap (2 ^ (ji4).toNat)) = ji6 := fun hle_ => by have h_ := hji6z hle_; rw [Int.one_mul] at h_; exact h_
        replace H := Option.bind_eq_some_iff.mp H
        obtain ⟨⟨t150, t151⟩, A70, H⟩ := H
        replace H : (some (t150, t151)) = some (r1, r2) := H
        have A7 := Aside0.mk A70
        clear A70
        simp only [Option.some.injEq, Prod.mk.injEq] at H
        obtain ⟨rfl, rfl⟩ := H
        go_enter Try.func78, Try.ntmps78
        go_wp2_with (first | ((with_reducible refine gate_callee (f := 42) rfl ?_); refine goesL_ (some 13) rfl rfl Try.func42 (by kernel_rfl) rfl #[.int .u64 ji6] rfl (by (try simp only [List.map_toArray, List.map_cons, List.map_nil]); first | done | (simp only [hji6]; rfl) | rfl | (simp only [List.length_drop, List.length_take]; rfl)) ?_; (with_reducible refine (gold_Inv.calls k ji6 t150 t151 _ A7.out).mono ?_); rintro e w8 ⟨rfl, hb⟩; refine ⟨_, rfl, ?_⟩; have n0_ := Aside0.mk (below_step (by repeat (first | (with_reducible first | exact HB.out | apply below_alloc | apply pw_below_drewN | apply below_drew1) | exact HB.out)) hb); clear HB; have HB := n0_; clear n0_; (try clear hb); (try clear hb2); (try clear hk); (try clear hi)))
        go_ret2
        exact ⟨by first | rfl | (simp [errW_none, errW_some] <;> rfl) | (simp only [← hji4, ← hji6]; first | rfl | (simp [errW_none, errW_some] <;> rfl)) | (simp [*, errW_none, errW_some] <;> rfl), by repeat (first | (with_reducible first | exact HB.out | apply below_alloc | apply pw_below_drewN | apply below_drew1) | exact HB.out)⟩
      · rw [if_neg c5] at H
        exact absurd H (by simp)

/-! ### root_good: function 90 -/
def root_good.f (a0 : Int) : Option (Bool) := if a0 ≥ 0 then (some (decide (a0 ≤ 32))) else (some false)
set_option maxHeartbeats 8000000 in
set_option maxRecDepth 100000 in
theorem root_good.calls (a0 : Int) (r : Bool) (w : World) (h : root_good.f a0 = some r) :
    Calls Try.prog 90 #[.int .i64 a0] w fun e w' => e = .returned (.bool r) ∧ Drawn0 w w' := by
  have H : (if a0 ≥ 0 then (some (decide (a0 ≤ 32))) else (some false)) = some r := h
  clear h
  by_cases c2 : a0 ≥ 0
  · rw [if_pos c2] at H
    have c2b0 : decide (0 ≤ a0) = true := decide_eq_true c2
    clear c2
    obtain rfl := Option.some.inj H
    go_enter Try.func90, Try.ntmps90
    go_wp2
    go_ret
    exact ⟨by first | rfl | (simp; done) | (simp [*]; done), by repeat (first | exact Drawn0.refl _ | apply Drawn0.step)⟩
  · rw [if_neg c2] at H
    have c2b0 : decide (0 ≤ a0) = false := decide_eq_false c2
    clear c2
    obtain rfl := Option.some.inj H
    go_enter Try.func90, Try.ntmps90
    go_wp2
    go_ret
    exact ⟨by first | rfl | (simp; done) | (simp [*]; done), by repeat (first | exact Drawn0.refl _ | apply Drawn0.step)⟩

/-! ### root_root: function 91 -/
def root_root.f (k : Nat) (a0 : Int) : Option (Int) := if 0 ≤ (IntKind.u64.wrap (a0)) then ((gold_Pow.f k 7 (shr .u64 18446744069414584320 (IntKind.u64.wrap (a0)))).bind fun t152 => (some t152)) else (none)
set_option maxHeartbeats 8000000 in
set_option maxRecDepth 100000 in
theorem root_root.calls (k : Nat) (a0 : Int) (r : Int) (w : World) (h : root_root.f k a0 = some r) :
    Calls Try.prog 91 #[.int .i64 a0] w fun e w' => e = .returned (.int .u64 r) ∧ Below w.heap.size w w' := by
  have HB := Aside0.mk (Below.refl w.heap.size w)
  have H : (if 0 ≤ (IntKind.u64.wrap (a0)) then ((gold_Pow.f k 7 (shr .u64 18446744069414584320 (IntKind.u64.wrap (a0)))).bind fun t152 => (some t152)) else (none)) = some r := h
  clear h
  obtain ⟨ji2, hji2⟩ : ∃ j_ : Int, (IntKind.u64.wrap (a0)) = j_ := ⟨_, rfl⟩
  replace H : (if 0 ≤ (ji2) then ((gold_Pow.f k 7 (shr .u64 18446744069414584320 (ji2))).bind fun t152 => (some t152)) else (none)) = some r := by first | (rw [hji2] at H; exact H) | (simp only [hji2] at H ⊢; exact H)
  by_cases c3 : 0 ≤ (ji2)
  · rw [if_pos c3] at H
    have c3b0 := eq_true c3
    have c3b1 : decide (0 ≤ (ji2)) = true := decide_eq_true c3
    clear c3
    obtain ⟨ji4, hji4⟩ : ∃ j_ : Int, (shr .u64 18446744069414584320 (ji2)) = j_ := ⟨_, rfl⟩
    replace H : ((gold_Pow.f k 7 (ji4)).bind fun t152 => (some t152)) = some r := by first | (rw [hji4] at H; exact H) | (simp only [hji4] at H ⊢; exact H)
    have hji4_ : (18446744069414584320 / 2 ^ min (ji2).toNat 64) = ji4 := hji4
    have hji4z : (ji2) ≤ 64 → (18446744069414584320 / 2 ^ (ji2).toNat) = ji4 := shr_small hji4
    replace H := Option.bind_eq_some_iff.mp H
    obtain ⟨t152, A50, H⟩ := H
    replace H : (some t152) = some r := H
    have A5 := Aside0.mk A50
    clear A50
    obtain rfl := Option.some.inj H
    go_enter Try.func91, Try.ntmps91
    go_wp2_with (first | ((with_reducible refine gate_callee (f := 52) rfl ?_); refine goesL_ (some 6) rfl rfl Try.func52 (by kernel_rfl) rfl #[.int .u64 7, .int .u64 ji4] rfl (by (try simp only [List.map_toArray, List.map_cons, List.map_nil]); first | done | (simp only [hji4]; rfl) | rfl | (simp only [List.length_drop, List.length_take]; rfl)) ?_; (with_reducible refine (gold_Pow.calls k 7 ji4 t152 _ A5.out).mono ?_); rintro e w6 ⟨rfl, hb⟩; refine ⟨_, rfl, ?_⟩; have n0_ := Aside0.mk (below_step (by repeat (first | (with_reducible first | exact HB.out | apply below_alloc | apply pw_below_drewN | apply below_drew1) | exact HB.out)) hb); clear HB; have HB := n0_; clear n0_; (try clear hb); (try clear hb2); (try clear hk); (try clear hi)))
    go_ret
    exact ⟨by first | rfl | (simp [errW_none, errW_some] <;> rfl) | (simp only [← hji2, ← hji4]; first | rfl | (simp [errW_none, errW_some] <;> rfl)) | (simp [*, errW_none, errW_some] <;> rfl), by repeat (first | (with_reducible first | exact HB.out | apply below_alloc | apply pw_below_drewN | apply below_drew1) | exact HB.out)⟩
  · rw [if_neg c3] at H
    exact absurd H (by simp)

/-! ### root_Root: function 88 -/
def root_Root.f (k : Nat) (a0 : Int) : Option (Int × Int) := (root_good.f a0).bind fun t153 => (if t153 = true then ((root_root.f k a0).bind fun t154 => (some (t154, 0))) else (some (0, 1)))
set_option maxHeartbeats 8000000 in
set_option maxRecDepth 100000 in
theorem root_Root.calls (k : Nat) (a0 : Int) (r1 : Int) (r2 : Int) (w : World) (h : root_Root.f k a0 = some (r1, r2)) :
    Calls Try.prog 88 #[.int .i64 a0] w fun e w' => e = .returned (.tuple #[.int .u64 r1, .int .i64 r2]) ∧ Below w.heap.size w w' := by
  have HB := Aside0.mk (Below.refl w.heap.size w)
  have H : ((root_good.f a0).bind fun t153 => (if t153 = true then ((root_root.f k a0).bind fun t154 => (some (t154, 0))) else (some (0, 1)))) = some (r1, r2) := h
  clear h
  replace H := Option.bind_eq_some_iff.mp H
  obtain ⟨t153, A20, H⟩ := H
  replace H : (if t153 = true then ((root_root.f k a0).bind fun t154 => (some (t154, 0))) else (some (0, 1))) = some (r1, r2) := H
  have A2 := Aside0.mk A20
  clear A20
  by_cases c3 : t153 = true
  · subst c3
    have H1 : ((root_root.f k a0).bind fun t154 => (some (t154, 0))) = some (r1, r2) := by rw [if_pos rfl] at H; exact H
    clear H
    have H := H1
    clear H1
    replace H := Option.bind_eq_some_iff.mp H
    obtain ⟨t154, A40, H⟩ := H
    replace H : (some (t154, 0)) = some (r1, r2) := H
    have A4 := Aside0.mk A40
    clear A40
    simp only [Option.some.injEq, Prod.mk.injEq] at H
    obtain ⟨rfl, rfl⟩ := H
    go_enter Try.func88, Try.ntmps88
    go_wp2_with (first | ((with_reducible refine gate_callee (f := 90) rfl ?_); refine goesL_ (some 5) rfl rfl Try.func90 (by kernel_rfl) rfl #[.int .i64 a0] rfl (by (try simp only [List.map_toArray, List.map_cons, List.map_nil]); first | done | rfl | (simp only [List.length_drop, List.length_take]; rfl)) ?_; (with_reducible refine (root_good.calls a0 true _ A2.out).mono ?_); rintro e w' ⟨rfl, ⟨nd, rfl⟩⟩; refine ⟨_, rfl, ?_⟩) | ((with_reducible refine gate_callee (f := 91) rfl ?_); refine goesL_ (some 8) rfl rfl Try.func91 (by kernel_rfl) rfl #[.int .i64 a0] rfl (by (try simp only [List.map_toArray, List.map_cons, List.map_nil]); first | done | rfl | (simp only [List.length_drop, List.length_take]; rfl)) ?_; (with_reducible refine (root_root.calls k a0 t154 _ A4.out).mono ?_); rintro e w5 ⟨rfl, hb⟩; refine ⟨_, rfl, ?_⟩; have n0_ := Aside0.mk (below_step (by repeat (first | (with_reducible first | exact HB.out | apply below_alloc | apply pw_below_drewN | apply below_drew1) | exact HB.out)) hb); clear HB; have HB := n0_; clear n0_; (try clear hb); (try clear hb2); (try clear hk); (try clear hi)))
    go_ret2
    exact ⟨by first | rfl | (simp [errW_none, errW_some] <;> rfl) | (simp [*, errW_none, errW_some] <;> rfl), by repeat (first | (with_reducible first | exact HB.out | apply below_alloc | apply pw_below_drewN | apply below_drew1) | exact HB.out)⟩
  · replace c3 := Bool.eq_false_iff.mpr c3
    subst c3
    have H1 : (some (0, 1)) = some (r1, r2) := by rw [if_neg (show ¬ (false = true) by decide)] at H; exact H
    clear H
    have H := H1
    clear H1
    simp only [Option.some.injEq, Prod.mk.injEq] at H
    obtain ⟨rfl, rfl⟩ := H
    go_enter Try.func88, Try.ntmps88
    go_wp2_with (first | ((with_reducible refine gate_callee (f := 90) rfl ?_); refine goesL_ (some 5) rfl rfl Try.func90 (by kernel_rfl) rfl #[.int .i64 a0] rfl (by (try simp only [List.map_toArray, List.map_cons, List.map_nil]); first | done | rfl | (simp only [List.length_drop, List.length_take]; rfl)) ?_; (with_reducible refine (root_good.calls a0 false _ A2.out).mono ?_); rintro e w' ⟨rfl, ⟨nd, rfl⟩⟩; refine ⟨_, rfl, ?_⟩))
    go_ret2
    exact ⟨by first | rfl | (simp [errW_none, errW_some] <;> rfl) | (simp [*, errW_none, errW_some] <;> rfl), by repeat (first | (with_reducible first | exact HB.out | apply below_alloc | apply pw_below_drewN | apply below_drew1) | exact HB.out)⟩

/-! ### root_Back: function 89 -/
def root_Back.f (k : Nat) (a0 : Int) : Option (Int × Int) := (root_good.f a0).bind fun t155 => (if t155 = true then ((root_root.f k a0).bind fun t156 => ((gold_Inv.f k t156).bind fun bt157 => (some (bt157.1, bt157.2)))) else (some (0, 1)))
set_option maxHeartbeats 8000000 in
set_option maxRecDepth 100000 in
theorem root_Back.calls (k : Nat) (a0 : Int) (r1 : Int) (r2 : Int) (w : World) (h : root_Back.f k a0 = some (r1, r2)) :
    Calls Try.prog 89 #[.int .i64 a0] w fun e w' => e = .returned (.tuple #[.int .u64 r1, .int .i64 r2]) ∧ Below w.heap.size w w' := by
  have HB := Aside0.mk (Below.refl w.heap.size w)
  have H : ((root_good.f a0).bind fun t155 => (if t155 = true then ((root_root.f k a0).bind fun t156 => ((gold_Inv.f k t156).bind fun bt157 => (some (bt157.1, bt157.2)))) else (some (0, 1)))) = some (r1, r2) := h
  clear h
  replace H := Option.bind_eq_some_iff.mp H
  obtain ⟨t155, A20, H⟩ := H
  replace H : (if t155 = true then ((root_root.f k a0).bind fun t156 => ((gold_Inv.f k t156).bind fun bt157 => (some (bt157.1, bt157.2)))) else (some (0, 1))) = some (r1, r2) := H
  have A2 := Aside0.mk A20
  clear A20
  by_cases c3 : t155 = true
  · subst c3
    have H1 : ((root_root.f k a0).bind fun t156 => ((gold_Inv.f k t156).bind fun bt157 => (some (bt157.1, bt157.2)))) = some (r1, r2) := by rw [if_pos rfl] at H; exact H
    clear H
    have H := H1
    clear H1
    replace H := Option.bind_eq_some_iff.mp H
    obtain ⟨t156, A40, H⟩ := H
    replace H : ((gold_Inv.f k t156).bind fun bt157 => (some (bt157.1, bt157.2))) = some (r1, r2) := H
    have A4 := Aside0.mk A40
    clear A40
    replace H := Option.bind_eq_some_iff.mp H
    obtain ⟨⟨t157, t158⟩, A50, H⟩ := H
    replace H : (some (t157, t158)) = some (r1, r2) := H
    have A5 := Aside0.mk A50
    clear A50
    simp only [Option.some.injEq, Prod.mk.injEq] at H
    obtain ⟨rfl, rfl⟩ := H
    go_enter Try.func89, Try.ntmps89
    go_wp2_with (first | ((with_reducible refine gate_callee (f := 90) rfl ?_); refine goesL_ (some 5) rfl rfl Try.func90 (by kernel_rfl) rfl #[.int .i64 a0] rfl (by (try simp only [List.map_toArray, List.map_cons, List.map_nil]); first | done | rfl | (simp only [List.length_drop, List.length_take]; rfl)) ?_; (with_reducible refine (root_good.calls a0 true _ A2.out).mono ?_); rintro e w' ⟨rfl, ⟨nd, rfl⟩⟩; refine ⟨_, rfl, ?_⟩) | ((with_reducible refine gate_callee (f := 91) rfl ?_); refine goesL_ (some 8) rfl rfl Try.func91 (by kernel_rfl) rfl #[.int .i64 a0] rfl (by (try simp only [List.map_toArray, List.map_cons, List.map_nil]); first | done | rfl | (simp only [List.length_drop, List.length_take]; rfl)) ?_; (with_reducible refine (root_root.calls k a0 t156 _ A4.out).mono ?_); rintro e w6 ⟨rfl, hb⟩; refine ⟨_, rfl, ?_⟩; have n0_ := Aside0.mk (below_step (by repeat (first | (with_reducible first | exact HB.out | apply below_alloc | apply pw_below_drewN | apply below_drew1) | exact HB.out)) hb); clear HB; have HB := n0_; clear n0_; (try clear hb); (try clear hb2); (try clear hk); (try clear hi)) | ((with_reducible refine gate_callee (f := 42) rfl ?_); refine goesL_ (some 9) rfl rfl Try.func42 (by kernel_rfl) rfl #[.int .u64 t156] rfl (by (try simp only [List.map_toArray, List.map_cons, List.map_nil]); first | done | rfl | (simp only [List.length_drop, List.length_take]; rfl)) ?_; (with_reducible refine (gold_Inv.calls k t156 t157 t158 _ A5.out).mono ?_); rintro e w7 ⟨rfl, hb⟩; refine ⟨_, rfl, ?_⟩; have n0_ := Aside0.mk (below_step (by repeat (first | (with_reducible first | exact HB.out | apply below_alloc | apply pw_below_drewN | apply below_drew1) | exact HB.out)) hb); clear HB; have HB := n0_; clear n0_; (try clear hb); (try clear hb2); (try clear hk); (try clear hi)))
    go_ret2
    exact ⟨by first | rfl | (simp [errW_none, errW_some] <;> rfl) | (simp [*, errW_none, errW_some] <;> rfl), by repeat (first | (with_reducible first | exact HB.out | apply below_alloc | apply pw_below_drewN | apply below_drew1) | exact HB.out)⟩
  · replace c3 := Bool.eq_false_iff.mpr c3
    subst c3
    have H1 : (some (0, 1)) = some (r1, r2) := by rw [if_neg (show ¬ (false = true) by decide)] at H; exact H
    clear H
    have H := H1
    clear H1
    simp only [Option.some.injEq, Prod.mk.injEq] at H
    obtain ⟨rfl, rfl⟩ := H
    go_enter Try.func89, Try.ntmps89
    go_wp2_with (first | ((with_reducible refine gate_callee (f := 90) rfl ?_); refine goesL_ (some 5) rfl rfl Try.func90 (by kernel_rfl) rfl #[.int .i64 a0] rfl (by (try simp only [List.map_toArray, List.map_cons, List.map_nil]); first | done | rfl | (simp only [List.length_drop, List.length_take]; rfl)) ?_; (with_reducible refine (root_good.calls a0 false _ A2.out).mono ?_); rintro e w' ⟨rfl, ⟨nd, rfl⟩⟩; refine ⟨_, rfl, ?_⟩))
    go_ret2
    exact ⟨by first | rfl | (simp [errW_none, errW_some] <;> rfl) | (simp [*, errW_none, errW_some] <;> rfl), by repeat (first | (with_reducible first | exact HB.out | apply below_alloc | apply pw_below_drewN | apply below_drew1) | exact HB.out)⟩

end Go.Proofs.Ytkgakohgbbapaaa.PTreeThrough
