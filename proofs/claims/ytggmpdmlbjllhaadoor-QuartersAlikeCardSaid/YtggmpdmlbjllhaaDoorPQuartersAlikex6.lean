-- Written for this claim by wip/gen/mk.sh, this session's own driver over the kit's print
import Derived.Test.YtggmpdmlbjllhaaDoorPQuartersAlikex0
import Derived.Test.YtggmpdmlbjllhaaDoorPQuartersAlikex1
import Derived.Test.YtggmpdmlbjllhaaDoorPQuartersAlikex2
import Derived.Test.YtggmpdmlbjllhaaDoorPQuartersAlikex4
import Derived.Test.YtggmpdmlbjllhaaDoorPQuartersAlikex5
namespace Go.Proofs.YtggmpdmlbjllhaaDoor.PQuartersAlike
open Go.RowKit Go.Proofs.YtggmpdmlbjllhaaDoorW.PrintWords Go.Proofs.YtggmpdmlbjllhaaDoorW.PrintLast Go.Proofs.YtggmpdmlbjllhaaDoorW.PrintMore
attribute [local go_sem] max2_int min2_int max_two min_two max_three min_three max_four min_four   -- for this text's walks alone
set_option linter.unusedVariables false
set_option linter.unusedSimpArgs false

/-! ### kern4_Kernel_Plain: function 51 (by hand) -/
def hk_mz (n : Nat) : Array Value := madeCells (Value.cells (.int .u64 0)) (n * 1)
theorem hk_mz_run {n : Nat} (h : n ≤ 1048576) (W : World) : (Instr.makeSlice 22 (.int .i64 (n : Int)) (.int .i64 (n : Int))).run Tryd.prog W = .ok (.slice (some ⟨W.heap.size, 0, none⟩) n n) (W.alloc (.cells (hk_mz n) 32)) := by
  obtain ⟨i0, hi, hzz⟩ := Option.map_eq_some_iff.1 info32
  simp only [Prod.mk.injEq] at hzz
  obtain ⟨hz0, hz1, hz2⟩ := hzz
  have hr := run_make (P := Tryd.prog) W 22 32 i0 _ Tryd.underlying22 hi hz0 .i64 .i64 (n : Int) (n : Int) (by omega) (by omega) (by rw [hz2]; omega) (by omega)
  rw [hr, Int.toNat_natCast, hz1]
  rfl
theorem hk_mz_R {n : Nat} (h : n ≤ 1048576) {W : World} {base : Nat} {ok : Nat → Prop} (hb : base ≤ W.heap.size) (hok : ok W.heap.size) : Kd.R (Kd.int .u64) 32 (W.alloc (.cells (hk_mz n) 32)) base ok (.slice (some ⟨W.heap.size, 0, none⟩) n n) (List.replicate n 0) := by
  have hlen : (hk_mz n).size = n := by unfold hk_mz; rw [size_madeCells]; omega
  have h2 := World.ownsRow_lit (base := base) (e := 32) (size := 1) W (hk_mz n) n hb (by unfold maxLen; omega) (by omega)
  refine Kd.R_of_own (enc := Value.int .u64) (h1 := fun _ => rfl) ?_ (fun k hk => by simp [Value.ownBlock] at hk; subst hk; exact hok)
  have e : (hk_mz n).toList = encs (Value.int .u64) (List.replicate n 0) := by
    unfold hk_mz madeCells encs
    rw [List.map_replicate]
    apply List.ext_getElem?
    intro j
    simp [List.getElem?_replicate, Value.cells]
    by_cases hj : j < n
    · simp [hj, Nat.mod_one]
    · simp [hj]
  rw [← e, List.length_replicate]
  exact h2
structure hk_PE (w0 w : World) (gp : Nat) (PD : Option Addr) (np cd : Nat) (ud : Int) (N g1 g2 c1 c2 : Nat) (src dst : List Int) (W : World) : Prop where
  hB : Below w0.heap.size w0 W
  hW : Below w.heap.size w W
  hX : W.heap[gp]? = some (.cells #[.slice PD np cd, .int .u64 ud, .slice (some ⟨g1, 0, none⟩) N c1, .slice (some ⟨g2, 0, none⟩) N c2] 90 (0, 0))
  h1 : Kd.R (Kd.int .u64) 32 W w0.heap.size (fun j => j = g1) (.slice (some ⟨g1, 0, none⟩) N c1) src
  h2 : Kd.R (Kd.int .u64) 32 W w0.heap.size (fun j => j = g2) (.slice (some ⟨g2, 0, none⟩) N c2) dst
  ne : w.heap.size ≤ gp ∧ w.heap.size ≤ g1 ∧ w.heap.size ≤ g2 ∧ g1 ≠ gp ∧ g2 ≠ gp ∧ g1 ≠ g2
theorem hk_scale_new (n : Nat) (g co N : Nat) (l0 sc : List Int) (w0 W : World) (S : Nat → Prop) (hR : Kd.R (Kd.int .u64) 32 W w0.heap.size S (.slice (some ⟨g, 0, none⟩) l0.length co) l0) (hsc : twid_Scale.f n l0 1 = some sc) (hscl : sc.length = l0.length) (hp : 0 < l0.length) :
    Calls Tryd.prog 43 #[.slice (some ⟨g, 0, none⟩) l0.length co, .int .u64 1] W fun e w' => ∃ gs q, e = .returned (.slice (some ⟨gs, 0, none⟩) l0.length q) ∧ W.heap.size ≤ gs ∧ Kd.R (Kd.int .u64) 32 w' W.heap.size (fun j => j = gs) (.slice (some ⟨gs, 0, none⟩) l0.length q) sc ∧ Below W.heap.size W w' := by
  refine (twid_Scale.calls n (some ⟨g, 0, none⟩) co l0 1 sc W (Kd.R_reads' hR).2.2 (Kd.R_reads' hR).2.1 hsc).mono ?_
  rintro e w' ⟨v, rfl, hv, hb⟩
  obtain ⟨gs, q, ev, hge, _, _, _⟩ := Kd.R_form hv (by omega)
  rw [hscl] at ev
  subst ev
  exact ⟨gs, q, rfl, hge, Kd.R_flat (fun h => h) hv (fun k hk _ => by have : some gs = some k := hk; injection this with this; exact this.symm), hb⟩
theorem hk_PE_mk {w0 w v : World} {PD : Option Addr} {np cd : Nat} {ud : Int} {N gs gd q q2 : Nat} {sc ze : List Int} (hB : Below w0.heap.size w0 w) (hwv : Below w.heap.size w v) (hgs : w.heap.size ≤ gs) (hgd : w.heap.size ≤ gd) (hne : gs ≠ gd)
    (h1 : Kd.R (Kd.int .u64) 32 v w0.heap.size (fun j => j = gs) (.slice (some ⟨gs, 0, none⟩) N q) sc) (h2 : Kd.R (Kd.int .u64) 32 v w0.heap.size (fun j => j = gd) (.slice (some ⟨gd, 0, none⟩) N q2) ze) :
    hk_PE w0 w v.heap.size PD np cd ud N gs gd q q2 sc ze (v.alloc (.cells #[.slice PD np cd, .int .u64 ud, .slice (some ⟨gs, 0, none⟩) N q, .slice (some ⟨gd, 0, none⟩) N q2] 90)) := by
  have hg1 := Kd.R_lt h1 gs rfl
  have hg2 := Kd.R_lt h2 gd rfl
  have hww := hwv.alloc hwv.size (.cells #[.slice PD np cd, .int .u64 ud, .slice (some ⟨gs, 0, none⟩) N q, .slice (some ⟨gd, 0, none⟩) N q2] 90)
  exact ⟨hB.trans (hww.mono hB.size), hww, Array.getElem?_push_size, Kd.R_alloc h1 _, Kd.R_alloc h2 _, hwv.size, hgs, hgd, by omega, by omega, hne⟩
def hk_k4s (pw : List Int) (u : Int) (k : Nat) (sc : List Int) : Nat → Option (List Int × List Int)
  | 0 => some (sc, List.replicate sc.length 0)
  | j + 1 => (hk_k4s pw u k sc j).bind fun p => (hk_qout pw p.1 u (2 ^ (k - 2 * j)) (4 ^ j) (p.1.length / 2 ^ (k - 2 * j)) p.2 (2 ^ (k - 2 * j) / 4)).bind fun r => some (r, p.1)
def hk_k4r (pw : List Int) (u : Int) (k : Nat) (sc : List Int) : Option (List Int) := (hk_k4s pw u k sc (k / 2)).bind fun p => if k % 2 = 1 then hk_hin p.1 (4 ^ (k / 2)) p.2 (4 ^ (k / 2)) else some p.1
theorem hk_k4s_down {pw : List Int} {u : Int} {k : Nat} {sc : List Int} : ∀ {j m : Nat} {r : List Int × List Int}, hk_k4s pw u k sc (j + m) = some r → ∃ x, hk_k4s pw u k sc j = some x
  | j, 0, r, h => ⟨r, h⟩
  | j, m + 1, r, h => by
    unfold hk_k4s at h
    obtain ⟨x, hx, _⟩ := Option.bind_eq_some_iff.1 h
    exact hk_k4s_down (m := m) hx
theorem hk_below_of {w0 w w' : World} (hB : Below w0.heap.size w0 w) (hB' : Below w0.heap.size w0 w') (hk : Kept w w' (fun _ => False)) : Below w.heap.size w w' :=
  ⟨hB'.os.trans hB.os.symm, hB'.tape.trans hB.tape.symm, hB'.output.trans hB.output.symm, hk.1, fun i hi => hk.2 i hi (fun h => h)⟩
theorem hk_PE.next {w0 w W w' : World} {gp : Nat} {PD : Option Addr} {np cd : Nat} {ud : Int} {N g1 g2 c1 c2 : Nat} {src dst r : List Int} (hB : Below w0.heap.size w0 w) (h : hk_PE w0 w gp PD np cd ud N g1 g2 c1 c2 src dst W) (hb : Below w0.heap.size w0 w') (hk : Kept W w' (fun j => j = gp ∨ j = g2))
    (hX : w'.heap[gp]? = some (.cells #[.slice PD np cd, .int .u64 ud, .slice (some ⟨g2, 0, none⟩) N c2, .slice (some ⟨g1, 0, none⟩) N c1] 90 (0, 0)))
    (hr : Kd.R (Kd.int .u64) 32 w' w0.heap.size (fun j => j = g2) (.slice (some ⟨g2, 0, none⟩) N c2) r) : hk_PE w0 w gp PD np cd ud N g2 g1 c2 c1 r src w' := by
  obtain ⟨n0, n1, n2, n3, n4, n5⟩ := h.ne
  refine ⟨hb, hk_below_of hB hb ((Kept.of_below h.hW (fun _ => False)).then_ hk (fun q hq => .inr (by rcases hq with rfl | rfl; exact n0; exact n2))), hX, hr, Kd.R_kept h.h1 hk (fun q hq hs => by subst hq; rcases hs with h | h; exact n3 h; exact n5 h), n0, n2, n1, n4, n3, Ne.symm n5⟩
theorem hk_quarter.PE (n s : Nat) (gp : Nat) (PD : Option Addr) (cd : Nat) (ud : Int) (N g1 g2 c1 c2 : Nat) (pd src dst r : List Int) (w0 w W : World) (S : Nat → Prop) (hB : Below w0.heap.size w0 w) (h : hk_PE w0 w gp PD pd.length cd ud N g1 g2 c1 c2 src dst W) (hSL : src.length = N)
    (hT : ∀ W, Kept w W S → Kd.C (Kd.int .u64) W PD pd.length pd) (hs : 0 < s) (hn : 4 ≤ n) (hN : N = n * s) (hN2 : N ≤ 1048576) (hpl : N ≤ pd.length) (hpl2 : pd.length ≤ 1048576) (hq : hk_qout pd src ud n s (src.length / n) dst (n / 4) = some r) :
    Calls Tryd.prog 63 #[.pointer (some ⟨gp, 0, none⟩), .int .i64 n, .int .i64 s] W fun e w' => e = .returned (.tuple #[]) ∧ hk_PE w0 w gp PD pd.length cd ud N g2 g1 c2 c1 r src w' := by
  subst hSL
  obtain ⟨n0, n1, n2, n3, n4, n5⟩ := h.ne
  refine (kern4_quarter.calls n s ud gp g1 g2 PD cd c1 c2 pd src dst r w0 W h.hB h.hX (Kd.C_kept_call hT (Kept.of_below h.hW S) (fun q hq => .inr (by rcases hq with rfl | rfl; exact n0; exact n2))) h.h1 h.h2 (Nat.le_trans hB.size n0) n3 n4 n5 hs hn hN hN2 ?_ hpl2 hq).mono ?_
  · intro i hi
    have e : src.length / n = s := by rw [hN, Nat.mul_div_cancel_left _ (by omega)]
    rw [e]
    have h1 : 3 * i < n := by omega
    have h2 : 3 * i * s < n * s := Nat.mul_lt_mul_of_pos_right h1 hs
    omega
  · rintro e w' ⟨rfl, hb, hk, hX, hr⟩
    exact ⟨rfl, h.next hB hb hk hX hr⟩
theorem hk_half.PE (s : Nat) (gp : Nat) (PD : Option Addr) (cd : Nat) (ud : Int) (N g1 g2 c1 c2 np : Nat) (src dst r : List Int) (w0 w W : World) (hB : Below w0.heap.size w0 w) (h : hk_PE w0 w gp PD np cd ud N g1 g2 c1 c2 src dst W) (hSL : src.length = N)
    (hs : 0 < s) (hN : N = 2 * s) (hN2 : N ≤ 1048576) (hq : hk_hin src s dst s = some r) :
    Calls Tryd.prog 64 #[.pointer (some ⟨gp, 0, none⟩), .int .i64 s] W fun e w' => e = .returned (.tuple #[]) ∧ hk_PE w0 w gp PD np cd ud N g2 g1 c2 c1 r src w' := by
  subst hSL
  obtain ⟨n0, n1, n2, n3, n4, n5⟩ := h.ne
  refine (kern4_half.calls s ud gp g1 g2 PD cd c1 c2 np src dst r w0 W h.hB h.hX h.h1 h.h2 (Nat.le_trans hB.size n0) n3 n4 n5 hs hN hN2 hq).mono ?_
  rintro e w' ⟨rfl, hb, hk, hX, hr⟩
  exact ⟨rfl, h.next hB hb hk hX hr⟩
theorem hk_pow_split {k j : Nat} (h : 2 * j ≤ k) : 2 ^ k = 2 ^ (k - 2 * j) * 4 ^ j := by
  rw [show (4 : Nat) = 2 ^ 2 by rfl, ← Nat.pow_mul, ← Nat.pow_add]; congr 1; omega
theorem hk_four_le {k j : Nat} (h : 2 * j + 2 ≤ k) : 4 ≤ 2 ^ (k - 2 * j) := by
  have := Nat.pow_le_pow_right (n := 2) (by omega) (show 2 ≤ k - 2 * j by omega); omega
theorem hk_pow_quarter {k j : Nat} (h : 2 * j + 2 ≤ k) : 2 ^ (k - 2 * j) / 4 = 2 ^ (k - 2 * (j + 1)) := by
  rw [show k - 2 * j = k - 2 * (j + 1) + 2 by omega, Nat.pow_add]; exact Nat.mul_div_cancel _ (by omega)
set_option maxHeartbeats 40000000 in
set_option maxRecDepth 100000 in
theorem kern4_Plain.calls (n k : Nat) (hk : k ≤ 20) (u : Value) (l0 pd sc r : List Int) (b b2 : Nat) (v0 v1 x0 x1 x2 : Value) (u0 u1 ud s d : Int) (PD : Option Addr) (cd : Nat) (S : Nat → Prop) (hS : ∀ j, S j ↔ u.ownBlock = some j) (w0 w : World) (hB : Below w0.heap.size w0 w)
    (ho0 : Kd.R (Kd.int .u64) 32 w w0.heap.size S u l0)
    (hX : ∀ W, Kept w W S → W.heap[b]? = some (.cells #[.pointer (some ⟨b2, 0, none⟩), v0, v1, .int .u64 u0, .int .u64 u1, .int .u64 s] 73 (0, 0)))
    (hX2 : ∀ W, Kept w W S → W.heap[b2]? = some (.cells #[x0, x1, x2, .int .i64 (k : Int)] 59 (0, 0)))
    (hT : ∀ W, Kept w W S → Kd.C (Kd.int .u64) W PD pd.length pd)
    (hv : (d = 0 ∧ v0 = .slice PD pd.length cd ∧ ud = u0) ∨ (d = 1 ∧ v1 = .slice PD pd.length cd ∧ ud = u1))
    (hl : l0.length = 2 ^ k) (hsc : twid_Scale.f n l0 1 = some sc) (hscl : sc.length = l0.length) (hpl : l0.length ≤ pd.length) (hpl2 : pd.length ≤ 1048576) (h : hk_k4r pd ud k sc = some r) :
    Calls Tryd.prog 51 #[.pointer (some ⟨b, 0, none⟩), u, .int .i64 d] w fun e w' => e = .returned (.int .i64 0) ∧ Kd.R (Kd.int .u64) 32 w' w0.heap.size S u r ∧ Below w0.heap.size w0 w' ∧ Kept w w' S := by
  have HK := Aside0.mk hk
  have HB := Aside0.mk hB
  have HX := Aside0.mk hX
  have HX2 := Aside0.mk hX2
  have HT := Aside0.mk hT
  have HL := Aside0.mk hl
  have HSC := Aside0.mk hsc
  have HSCL := Aside0.mk hscl
  have HPL := Aside0.mk (And.intro hpl hpl2)
  have HH := Aside0.mk h
  obtain ⟨g, co, eo, gb, gl, cl, hGG⟩ := Kd.R_form ho0 (by rw [hl]; exact Nat.two_pow_pos k)
  subst eo
  have HO := Aside0.mk ho0
  have GB := Aside0.mk gb
  have HS := Aside0.mk hS
  have hL : l0.length ≤ 1048576 := by rw [hl]; exact Nat.pow_le_pow_right (n := 2) (by omega) hk
  have HLE := Aside0.mk hL
  have HMK := hk_mz_run hL
  have hcond : ((l0.length : Int) != wrap64 (2 ^ min (IntKind.u64.wrap (k : Int)).toNat 64)) = false := by
    have e : IntKind.u64.wrap (k : Int) = (k : Int) := by simp [IntKind.wrap, IntKind.bits, IntKind.signed]; omega
    rw [e, Int.toNat_natCast, Nat.min_eq_left (by omega), show ((2 : Int) ^ k) = ((2 ^ k : Nat) : Int) by simp, ← i64_w, hk_wn (by rw [← hl]; exact hL), hl]
    exact bne_self_eq_false _
  have hc0 := hk_blk_cell (hX w (Kept.refl _ _)) 0 _ rfl
  have HV := Aside0.mk hv
  clear hk hB hX hX2 hT hl hsc hscl ho0 gb gl hGG hS hL hv hpl hpl2 h
  have key : d = 0 ∨ d = 1 := by rcases HV.out with h | h; exact .inl h.1; exact .inr h.1
  have d1 : decide (d < 0) = false := decide_eq_false (by omega)
  have d2 : decide (1 < d) = false := decide_eq_false (by omega)
  clear key
  go_enter Tryd.func51, Tryd.ntmps51
  go_wp2_with (go_at_call 23; (with_reducible refine (hk_kern2_K.calls b2 x0 x1 x2 k _ (HX2.out _ (Kept.refl _ _))).mono ?_); rintro e w1 ⟨rfl, hb1⟩; have hb1 := Aside0.mk (hk_drawn_below hb1))
  have HP0 := Aside0.mk (show 0 < l0.length by rw [HL.out]; exact Nat.two_pow_pos k)
  have HW := hb1
  go_cut [7] from 10 to 70 (fun v7 wx => ∃ gp g1 g2 c1 c2, v7 = .pointer (some ⟨gp, 0, none⟩) ∧ Aside0 (hk_PE w0 w gp PD pd.length cd ud l0.length g1 g2 c1 c2 sc (List.replicate l0.length 0) wx))
  case first =>
    rcases HV.out with ⟨rfl, rfl, rfl⟩ | ⟨rfl, rfl, rfl⟩
    · have SX := Aside0.mk (show ∀ V, Below w.heap.size w V → V.cell? ⟨b, 1, none⟩ = some (.slice PD pd.length cd) ∧ V.cell? ⟨b, 3, none⟩ = some (.int .u64 ud) from fun V hV => ⟨hk_blk_cell (HX.out V (Kept.of_below hV S)) 1 _ rfl, hk_blk_cell (HX.out V (Kept.of_below hV S)) 3 _ rfl⟩)
      obtain ⟨sx1, sx2⟩ := SX.out _ HW.out
      go_region_held3 (fun V => V.cell? ⟨b, 1, none⟩ = some (.slice PD pd.length cd) ∧ V.cell? ⟨b, 3, none⟩ = some (.int .u64 ud)) (first | ((refine SX.out _ ?_; (with_reducible repeat (first | exact HW.out | apply below_alloc | apply below_drew)); done)) | go_keep) (first | (go_at_call 43; (with_reducible refine (hk_scale_new n g co l0.length l0 sc w0 _ S (Kd.R_below HO.out ?hw) HSC.out HSCL.out HP0.out).mono ?_); (case hw => (with_reducible repeat (first | exact HW.out | apply below_alloc | apply below_drew))); rintro e v ⟨gs, q, rfl, hge, hR, hbv⟩; have hge := Aside0.mk hge; have hR := Aside0.mk hR; have n0_ := Aside0.mk ((by (with_reducible repeat (first | exact HW.out | apply below_alloc | apply below_drew)) : Below w.heap.size w _).trans (hbv.mono (by have := HW.out.size; simp; omega))); have hbv := Aside0.mk hbv; have HW1 := HW; clear HW; have HW := n0_; clear n0_))
      all_goals (go_wp2_with fail)
      all_goals go_meet
      all_goals
        case rel =>
          first
            | (refine ⟨(v.alloc (.cells (hk_mz l0.length) 32)).heap.size, gs, v.heap.size, q, l0.length, (by simp), ⟨?_⟩⟩
               have hz := hk_mz_R (W := v) (base := w0.heap.size) (ok := fun j => j = v.heap.size) HLE.out (by have := HW.out.size; have := HB.out.size; omega) rfl
               have hlt := Kd.R_lt hR.out gs rfl
               have h1 := HW1.out.size
               have h2 := HB.out.size
               have h3 := hge.out
               simp only [World.size_drew] at h3
               exact hk_PE_mk HB.out (HW.out.alloc HW.out.size _) (by omega) (by have := HW.out.size; omega) (by omega) (Kd.R_lower (Kd.R_alloc hR.out _) (by simp only [World.size_drew]; omega)) hz)
            | (refine ⟨_, gs, w1.heap.size, q, l0.length, rfl, ⟨?_⟩⟩
               have hz := hk_mz_R (W := w1) (base := w0.heap.size) (ok := fun j => j = w1.heap.size) HLE.out (by have := hb1.out.size; have := HB.out.size; omega) rfl
               have h1 := hb1.out.size
               have h2 := HB.out.size
               have h3 := hge.out
               simp at h3
               exact hk_PE_mk HB.out HW.out (by omega) (by omega) (by omega) (Kd.R_lower hR.out (by simp; omega)) (Kd.R_below (Kd.R_drew hz) hbv.out))
    · have SX := Aside0.mk (show ∀ V, Below w.heap.size w V → V.cell? ⟨b, 2, none⟩ = some (.slice PD pd.length cd) ∧ V.cell? ⟨b, 4, none⟩ = some (.int .u64 ud) from fun V hV => ⟨hk_blk_cell (HX.out V (Kept.of_below hV S)) 2 _ rfl, hk_blk_cell (HX.out V (Kept.of_below hV S)) 4 _ rfl⟩)
      obtain ⟨sx1, sx2⟩ := SX.out _ HW.out
      go_region_held3 (fun V => V.cell? ⟨b, 2, none⟩ = some (.slice PD pd.length cd) ∧ V.cell? ⟨b, 4, none⟩ = some (.int .u64 ud)) (first | ((refine SX.out _ ?_; (with_reducible repeat (first | exact HW.out | apply below_alloc | apply below_drew)); done)) | go_keep) (first | (go_at_call 43; (with_reducible refine (hk_scale_new n g co l0.length l0 sc w0 _ S (Kd.R_below HO.out ?hw) HSC.out HSCL.out HP0.out).mono ?_); (case hw => (with_reducible repeat (first | exact HW.out | apply below_alloc | apply below_drew))); rintro e v ⟨gs, q, rfl, hge, hR, hbv⟩; have hge := Aside0.mk hge; have hR := Aside0.mk hR; have n0_ := Aside0.mk ((by (with_reducible repeat (first | exact HW.out | apply below_alloc | apply below_drew)) : Below w.heap.size w _).trans (hbv.mono (by have := HW.out.size; simp; omega))); have hbv := Aside0.mk hbv; have HW1 := HW; clear HW; have HW := n0_; clear n0_))
      all_goals (go_wp2_with fail)
      all_goals go_meet
      all_goals
        case rel =>
          first
            | (refine ⟨(v.alloc (.cells (hk_mz l0.length) 32)).heap.size, gs, v.heap.size, q, l0.length, (by simp), ⟨?_⟩⟩
               have hz := hk_mz_R (W := v) (base := w0.heap.size) (ok := fun j => j = v.heap.size) HLE.out (by have := HW.out.size; have := HB.out.size; omega) rfl
               have hlt := Kd.R_lt hR.out gs rfl
               have h1 := HW1.out.size
               have h2 := HB.out.size
               have h3 := hge.out
               simp only [World.size_drew] at h3
               exact hk_PE_mk HB.out (HW.out.alloc HW.out.size _) (by omega) (by have := HW.out.size; omega) (by omega) (Kd.R_lower (Kd.R_alloc hR.out _) (by simp only [World.size_drew]; omega)) hz)
            | (refine ⟨_, gs, w1.heap.size, q, l0.length, rfl, ⟨?_⟩⟩
               have hz := hk_mz_R (W := w1) (base := w0.heap.size) (ok := fun j => j = w1.heap.size) HLE.out (by have := hb1.out.size; have := HB.out.size; omega) rfl
               have h1 := hb1.out.size
               have h2 := HB.out.size
               have h3 := hge.out
               simp at h3
               exact hk_PE_mk HB.out HW.out (by omega) (by omega) (by omega) (Kd.R_lower hR.out (by simp; omega)) (Kd.R_below (Kd.R_drew hz) hbv.out))
  case rest =>
    obtain ⟨gp, g1, g2, c1, c2, rfl, HPE⟩ := hcut
    clear HMK hcond hc0 d1 d2 hb1 HW
    obtain ⟨⟨sf, df⟩, hkf, hfin⟩ := Option.bind_eq_some_iff.1 HH.out
    have HKF := Aside0.mk hkf
    have HFIN := Aside0.mk hfin
    clear hkf hfin
    go_wp2_with fail
    go_loopg [8, 9] (k / 2) (fun kq v8 v9 w' => ∃ (j nv sv : Nat) (src dst : List Int) (f1 f2 e1 e2 : Nat), v8 = .int .i64 (nv : Int) ∧ v9 = .int .i64 (sv : Int) ∧ Aside0 (kq + j = k / 2) ∧ Aside0 (nv = 2 ^ (k - 2 * j) ∧ sv = 4 ^ j) ∧ Aside0 (hk_k4s pd ud k sc j = some (src, dst)) ∧ Aside0 (src.length = l0.length) ∧ Aside0 (hk_PE w0 w gp PD pd.length cd ud l0.length f1 f2 e1 e2 src dst w'))
    case atStart => exact ⟨0, l0.length, 1, sc, _, g1, g2, c1, c2, rfl, rfl, ⟨by omega⟩, ⟨by rw [HL.out]; exact ⟨rfl, rfl⟩⟩, ⟨by unfold hk_k4s; rw [HSCL.out]⟩, HSCL, HPE⟩
    case round =>
      obtain ⟨j, nv, sv, src, dst, f1, f2, e1, e2, rfl, rfl, HJ, HNS, Hk, HSL, HP⟩ := hrel
      cases gk with
      | zero =>
        have ej : j = k / 2 := by have := HJ.out; omega
        rw [ej] at Hk HNS
        have hpr := Hk.out
        rw [HKF.out] at hpr
        injection hpr with hpr
        injection hpr with es ed
        subst es ed
        have HFIN2 := Aside0.mk HFIN.out
        clear ej
        by_cases hodd : k % 2 = 1
        · have hf := HFIN2.out
          rw [if_pos hodd, ← HNS.out.2] at hf
          have HF := Aside0.mk hf
          have hnv : nv = 2 := by rw [HNS.out.1, show k - 2 * (k / 2) = 1 by omega]
          subst hnv
          have hN2 : l0.length = 2 * sv := by
            have h5 := hk_pow_split (k := k) (j := k / 2) (by omega)
            rw [← HNS.out.1, ← HNS.out.2] at h5
            rw [HL.out, h5]
          have hsv : 0 < sv := by rw [HNS.out.2]; exact Nat.pow_pos (by omega)
          have H4 := Aside0.mk (And.intro hsv hN2)
          clear hodd hf hN2 hsv
          go_wp2_with (first | (go_at_call 64; (with_reducible refine (hk_half.PE sv gp PD cd ud l0.length f1 f2 e1 e2 pd.length sf df r w0 w _ HB.out HP.out HSL.out H4.out.1 H4.out.2 HLE.out HF.out).mono ?_); rintro e w3 ⟨rfl, hP3⟩; have cg := hk_blk_cell hP3.hX 2 _ rfl; have HU := Aside0.mk (Kd.R_below HO.out hP3.hW); have HC := Aside0.mk (Kd.R_reads' hP3.h1).2.2; have HCL := Aside0.mk (Kd.R_reads' hP3.h1).1.symm; have HPB := Aside0.mk hP3.hB; have HPW := Aside0.mk hP3.hW; clear hP3) | ((with_reducible refine hk_wpList_copy_whole (o := ⟨some 70, _, _, _, _, _⟩) rfl (.tmp 65) (.tmp 69) 22 32 rfl Tryd.underlying22 ?ci g l0.length co (some ⟨f2, 0, none⟩) e2 ?cd ?cs HU.out HC.out HCL.out HP0.out ?_); (case ci => rfl); (case cd => rfl); (case cs => rfl); intro w4 hR4 hg4; have hB4 := Aside0.mk (HPB.out.trans ⟨hg4.os, hg4.tape, hg4.output, hg4.size, fun q hq => hg4.block q (Nat.lt_of_lt_of_le hq HPB.out.size) (fun e => by have := GB.out; injection e with e; omega)⟩); have hK4 := Aside0.mk (Kept.of_grown hg4 (Kept.of_below HPW.out S) (fun q hq => .inl (by injection hq with hq; rw [← hq]; exact (HS.out g).2 rfl))); have hR4 := Aside0.mk hR4; clear hg4))
          go_ret
          exact ⟨rfl, hR4.out, hB4.out, hK4.out⟩
        · have hf := HFIN2.out
          rw [if_neg hodd] at hf
          have er := Option.some.inj hf
          subst er
          have hnv : nv = 1 := by rw [HNS.out.1, show k - 2 * (k / 2) = 0 by omega]
          subst hnv
          clear hodd hf
          have cg := hk_blk_cell HP.out.hX 2 _ rfl
          have HU := Aside0.mk (Kd.R_below HO.out HP.out.hW)
          have HC := Aside0.mk (Kd.R_reads' HP.out.h1).2.2
          have HCL := Aside0.mk (Kd.R_reads' HP.out.h1).1.symm
          have HPB := Aside0.mk HP.out.hB
          have HPW := Aside0.mk HP.out.hW
          go_wp2_with ((with_reducible refine hk_wpList_copy_whole (o := ⟨some 70, _, _, _, _, _⟩) rfl (.tmp 65) (.tmp 69) 22 32 rfl Tryd.underlying22 ?ci g l0.length co (some ⟨f1, 0, none⟩) e1 ?cd ?cs HU.out HC.out HCL.out HP0.out ?_); (case ci => rfl); (case cd => rfl); (case cs => rfl); intro w4 hR4 hg4; have hB4 := Aside0.mk (HPB.out.trans ⟨hg4.os, hg4.tape, hg4.output, hg4.size, fun q hq => hg4.block q (Nat.lt_of_lt_of_le hq HPB.out.size) (fun e => by have := GB.out; injection e with e; omega)⟩); have hK4 := Aside0.mk (Kept.of_grown hg4 (Kept.of_below HPW.out S) (fun q hq => .inl (by injection hq with hq; rw [← hq]; exact (HS.out g).2 rfl))); have hR4 := Aside0.mk hR4; clear hg4)
          go_ret
          exact ⟨rfl, hR4.out, hB4.out, hK4.out⟩
      | succ k2 =>
        have hj := HJ.out
        have hj2 : 2 * j + 2 ≤ k := by omega
        obtain ⟨x, hx⟩ : ∃ x, hk_k4s pd ud k sc (j + 1) = some x := hk_k4s_down (m := k2) (by rw [show j + 1 + k2 = k / 2 by omega]; exact HKF.out)
        have hx2 := hx
        unfold hk_k4s at hx2
        rw [Hk.out, Option.bind_some, ← HNS.out.1, ← HNS.out.2] at hx2
        obtain ⟨r2, hq, hx2⟩ := Option.bind_eq_some_iff.1 hx2
        have hx3 := Option.some.inj hx2
        subst hx3
        have HQ := Aside0.mk hq
        have HX3 := Aside0.mk hx
        have h4 : 4 ≤ nv := by rw [HNS.out.1]; exact hk_four_le hj2
        have hsv : 0 < sv := by rw [HNS.out.2]; exact Nat.pow_pos (by omega)
        have hNn : l0.length = nv * sv := by rw [HL.out, HNS.out.1, HNS.out.2]; exact hk_pow_split (by omega)
        have H4 := Aside0.mk (And.intro h4 (And.intro hsv hNn))
        have HJ2 := Aside0.mk hj2
        have c1 : decide (4 ≤ (nv : Int)) = true := decide_eq_true (by omega)
        have c2 : (4 ≤ nv) = True := eq_true h4
        clear hj hj2 hx hx2 hq h4 hsv hNn
        go_wp2_with (go_at_call 63; (with_reducible refine (hk_quarter.PE nv sv gp PD cd ud l0.length f1 f2 e1 e2 pd src dst r2 w0 w _ S HB.out HP.out HSL.out HT.out H4.out.2.1 H4.out.1 H4.out.2.2 HLE.out HPL.out.1 HPL.out.2 HQ.out).mono ?_); rintro e w3 ⟨rfl, hP3⟩; have HP3 := Aside0.mk hP3; clear hP3)
        have hr2 := (Kd.R_reads' HP3.out.h1).1
        have HR2 := Aside0.mk hr2
        have hnv : nv ≤ 1048576 := by have := H4.out.2.2; have := HLE.out; have h6 : nv ≤ nv * sv := Nat.le_mul_of_pos_right _ H4.out.2.1; omega
        have hsv2 : 4 * sv ≤ 1048576 := by have := H4.out.2.2; have := HLE.out; have h6 : 4 * sv ≤ nv * sv := Nat.mul_le_mul_right _ H4.out.1; omega
        have HNV := Aside0.mk (And.intro hnv hsv2)
        clear hr2 hnv hsv2 c1 c2
        go_roundg k2
        case measure => omega
        case rel =>
          refine ⟨j + 1, nv / 4, 4 * sv, r2, src, f2, f1, e2, e1, ?_, ?_, ⟨by have := HJ.out; omega⟩, ⟨?_⟩, HX3, ⟨HR2.out.symm⟩, HP3⟩
          · rw [show wrap64 ((nv : Int) / 4) = ((nv / 4 : Nat) : Int) by rw [← i64_w]; exact hk_wn (z := nv / 4) (by have := HNV.out.1; omega)]
          · rw [show wrap64 (4 * (sv : Int)) = ((4 * sv : Nat) : Int) by rw [← i64_w]; exact hk_wn (z := 4 * sv) HNV.out.2]
          · exact ⟨by rw [HNS.out.1]; exact hk_pow_quarter HJ2.out, by rw [HNS.out.2, Nat.pow_succ]; omega⟩

/-! ### kern4_Kernel_Run: function 29 (by hand) -/
theorem hk4_scale_at (k : Nat) (A0 : Option Addr) (c0 m : Nat) (l0 : List Int) (a1 : Int) (r : List Int) (w : World) (hm : m = l0.length) (hr0 : Kd.C (Kd.int .u64) w A0 l0.length l0) (hc0 : l0.length ≤ c0) (h : twid_Scale.f k l0 a1 = some r) :
    Calls Tryd.prog 43 #[.slice A0 m c0, .int .u64 a1] w fun e w' => ∃ v0_ : Value, e = .returned (v0_) ∧ Kd.R (Kd.int .u64) 32 w' w.heap.size (fun _ => True) v0_ r ∧ Below w.heap.size w w' := by
  subst hm
  exact twid_Scale.calls k A0 c0 l0 a1 r w hr0 hc0 h
set_option maxHeartbeats 800000 in
set_option maxRecDepth 100000 in
theorem kern4_Run.calls (n k : Nat) (hk : k ≤ 20) (u : Value) (l0 pd sc r : List Int) (b b2 : Nat) (v0 v1 x0 x1 x2 : Value) (u0 u1 ud s d : Int) (PD : Option Addr) (cd : Nat) (S : Nat → Prop) (hS : ∀ j, S j ↔ u.ownBlock = some j) (w0 w : World) (hB : Below w0.heap.size w0 w)
    (ho0 : Kd.R (Kd.int .u64) 32 w w0.heap.size S u l0)
    (hX : ∀ W, Kept w W S → W.heap[b]? = some (.cells #[.pointer (some ⟨b2, 0, none⟩), v0, v1, .int .u64 u0, .int .u64 u1, .int .u64 s] 73 (0, 0)))
    (hX2 : ∀ W, Kept w W S → W.heap[b2]? = some (.cells #[x0, x1, x2, .int .i64 (k : Int)] 59 (0, 0)))
    (hT : ∀ W, Kept w W S → Kd.C (Kd.int .u64) W PD pd.length pd)
    (hv : (d = 0 ∧ v0 = .slice PD pd.length cd ∧ ud = u0) ∨ (d = 1 ∧ v1 = .slice PD pd.length cd ∧ ud = u1))
    (hl : l0.length = 2 ^ k) (hsc : twid_Scale.f n l0 1 = some sc) (hscl : sc.length = l0.length) (hpl : l0.length ≤ pd.length) (hpl2 : pd.length ≤ 1048576) (h : hk_k4r pd ud k sc = some r) (rr : List Int) (h2 : (d = 0 ∧ rr = r) ∨ (d = 1 ∧ twid_Scale.f n r s = some rr ∧ rr.length = r.length)) :
    Calls Tryd.prog 29 #[.pointer (some ⟨b, 0, none⟩), u, .int .i64 d] w fun e w' => e = .returned (.int .i64 0) ∧ Kd.R (Kd.int .u64) 32 w' w0.heap.size S u rr ∧ Below w0.heap.size w0 w' ∧ Kept w w' S := by
  have C := Aside0.mk (kern4_Plain.calls n k hk u l0 pd sc r b b2 v0 v1 x0 x1 x2 u0 u1 ud s d PD cd S hS w0 w hB ho0 hX hX2 hT hv hl hsc hscl hpl hpl2 h)
  obtain ⟨g, co, eo, gb, gl, cl, hGG⟩ := Kd.R_form ho0 (by rw [hl]; exact Nat.two_pow_pos k)
  subst eo
  have HX := Aside0.mk hX
  have HP := Aside0.mk (show 0 < l0.length by rw [hl]; exact Nat.two_pow_pos k)
  have HSG := Aside0.mk (show S g from (hS g).2 rfl)
  have GB := Aside0.mk gb
  have H2 := Aside0.mk h2
  clear hk hB hX hX2 hT hl hsc hscl ho0 gb gl hGG hS hv hpl hpl2 h h2
  rcases H2.out with ⟨rfl, rfl⟩ | ⟨rfl, h2, hr2⟩
  · clear H2
    go_enter Tryd.func29, Tryd.ntmps29
    go_wp2_with (go_at_call 51; (with_reducible refine (C.out).mono ?_); rintro e w1 ⟨rfl, hR, hB, hK⟩; have hR := Aside0.mk hR; have hB := Aside0.mk hB; have hK := Aside0.mk hK)
    go_ret
    exact ⟨rfl, hR.out, hB.out, hK.out⟩
  · have HR2 := Aside0.mk hr2
    have HS2 := Aside0.mk h2
    clear H2 hr2 h2
    go_enter Tryd.func29, Tryd.ntmps29
    go_wp2_with (first | (go_at_call 51; (with_reducible refine (C.out).mono ?_); rintro e w1 ⟨rfl, hR, hB, hK⟩; have hc2 := hk_blk_cell (HX.out _ hK) 5 _ rfl; have hR := Aside0.mk hR; have hB := Aside0.mk hB; have hK := Aside0.mk hK) | (go_at_call 43; (with_reducible refine (hk4_scale_at n (some ⟨g, 0, none⟩) co l0.length r s rr _ (Kd.R_reads' hR.out).1 (Kd.R_reads' hR.out).2.2 ?hco HS2.out).mono ?_); (case hco => have h1 := Kd.R_reads' hR.out; omega); rintro e w3 ⟨vs, rfl, hs3, hb3⟩; obtain ⟨As, cs_, ev⟩ := Kd.R_slice hs3; rw [show rr.length = l0.length from HR2.out.trans (Kd.R_reads' hR.out).1.symm] at ev; subst ev; have hR3 := Aside0.mk (Kd.R_below hR.out hb3); have hB3 := Aside0.mk (hB.out.trans (hb3.mono hB.out.size)); have hK3 := Aside0.mk (hK.out.below hb3); have hs3 := Aside0.mk (Kd.R_reads' hs3).2.2; clear hb3) | ((with_reducible refine hk_wpList_copy_whole (o := ⟨some 25, _, _, _, _, _⟩) rfl (.tmp 18) (.tmp 24) 22 32 rfl Tryd.underlying22 ?ci g l0.length co As cs_ ?cd ?cs hR3.out hs3.out ?cl HP.out ?_); (case ci => rfl); (case cd => rfl); (case cs => rfl); (case cl => exact HR2.out.trans (Kd.R_reads' hR3.out).1.symm); intro w4 hR4 hg4; have hB4 := Aside0.mk (hB3.out.trans ⟨hg4.os, hg4.tape, hg4.output, hg4.size, fun q hq => hg4.block q (Nat.lt_of_lt_of_le hq hB3.out.size) (fun e => by have := GB.out; injection e with e; omega)⟩); have hK4 := Aside0.mk (Kept.of_grown hg4 hK3.out (fun q hq => .inl (by injection hq with hq; rw [← hq]; exact HSG.out))); have hR4 := Aside0.mk hR4; clear hg4))
    go_ret
    exact ⟨rfl, hR4.out, hB4.out, hK4.out⟩
/-- What a transform by quarters makes, undivided (plain) or as it is. -/
def hk_run4 (n k : Nat) (t0 t1 : List Int) (u0 u1 s d : Int) (plain : Bool) (l0 rr : List Int) : Prop :=
  ∃ sc r, (d = 0 ∨ d = 1) ∧ twid_Scale.f n l0 1 = some sc ∧ sc.length = l0.length ∧ l0.length = 2 ^ k ∧ (if d = 0 then t0 else t1).length = 2 ^ k ∧ hk_k4r (if d = 0 then t0 else t1) (if d = 0 then u0 else u1) k sc = some r ∧ (((plain = true ∨ d = 0) ∧ rr = r) ∨ (plain = false ∧ d = 1 ∧ twid_Scale.f n r s = some rr ∧ rr.length = r.length))
theorem hk_Run4.use (n k : Nat) (hk : k ≤ 20) (u : Value) (l0 rr t0 t1 : List Int) (u0 u1 s d : Int) (lo hi b : Nat) (plain : Bool) (w0 w : World) (hB : Below w0.heap.size w0 w) (K : hk_K4 k t0 t1 u0 u1 s lo hi b w)
    (ho : Kd.R (Kd.int .u64) 32 w w0.heap.size (fun _ => True) u l0) (hu : ∀ j, u.ownBlock = some j → j < lo ∨ hi ≤ j) (h : hk_run4 n k t0 t1 u0 u1 s d plain l0 rr) :
    Calls Tryd.prog (if plain = true then 51 else 29) #[.pointer (some ⟨b, 0, none⟩), u, .int .i64 d] w fun e w' => e = .returned (.int .i64 0) ∧ Kd.R (Kd.int .u64) 32 w' w0.heap.size (fun _ => True) u rr ∧ Below w0.heap.size w0 w' ∧ Kept w w' (fun j => u.ownBlock = some j) := by
  obtain ⟨sc, r, hd, hsc, hscl, hl, hpl, hr, h2⟩ := h
  obtain ⟨⟨h0, h1⟩, b2, v0, v1, x0, x1, x2, hb2, hX, hX2, hR0, hR1⟩ := K
  have hp20 : 2 ^ k ≤ 1048576 := Nat.pow_le_pow_right (n := 2) (by omega) hk
  have far : ∀ j, lo ≤ j → j < hi → ¬ u.ownBlock = some j := fun j hl hj e => by have := hu j e; omega
  have hoS : Kd.R (Kd.int .u64) 32 w w0.heap.size (fun j => u.ownBlock = some j) u l0 := Kd.R_flat (fun h => h) ho (fun q hq _ => hq)
  obtain ⟨D0, m0, rfl⟩ := Kd.R_slice hR0
  obtain ⟨D1, m1, rfl⟩ := Kd.R_slice hR1
  have key : ∀ (pd : List Int) (ud : Int) (PD : Option Addr) (cd : Nat), pd.length = 2 ^ k → hk_k4r pd ud k sc = some r → Kd.R (Kd.int .u64) 32 w lo (fun j => j < hi) (.slice PD pd.length cd) pd → ((d = 0 ∧ (Value.slice D0 t0.length m0) = .slice PD pd.length cd ∧ ud = u0) ∨ (d = 1 ∧ (Value.slice D1 t1.length m1) = .slice PD pd.length cd ∧ ud = u1)) →
      Calls Tryd.prog (if plain = true then 51 else 29) #[.pointer (some ⟨b, 0, none⟩), u, .int .i64 d] w fun e w' => e = .returned (.int .i64 0) ∧ Kd.R (Kd.int .u64) 32 w' w0.heap.size (fun _ => True) u rr ∧ Below w0.heap.size w0 w' ∧ Kept w w' (fun j => u.ownBlock = some j) := by
    intro pd ud PD cd hpd hr hR hv
    have hT : ∀ W, Kept w W (fun j => u.ownBlock = some j) → Kd.C (Kd.int .u64) W PD pd.length pd := Kd.C_kept_own (S := fun j => u.ownBlock = some j) (Kd.R_bound hR) (fun q hq => far q hq.2.1 hq.1)
    cases plain with
    | true =>
      rw [if_pos rfl]
      rcases h2 with ⟨_, rfl⟩ | ⟨hf, _⟩
      · refine (kern4_Plain.calls n k hk u l0 pd sc rr b b2 _ _ x0 x1 x2 u0 u1 ud s d PD cd (fun j => u.ownBlock = some j) (fun _ => Iff.rfl) w0 w hB hoS (fun W hW => blk_kept hX hW (far _ h0 h1)) (fun W hW => blk_kept hX2 hW (far _ hb2.1 hb2.2)) hT hv hl hsc hscl (by omega) (by omega) hr).mono ?_
        rintro e w' ⟨he, hR', hB', hK'⟩
        exact ⟨he, Kd.R_mono hR' (fun _ _ => trivial), hB', hK'⟩
      · cases hf
    | false =>
      rw [if_neg (by decide)]
      refine (kern4_Run.calls n k hk u l0 pd sc r b b2 _ _ x0 x1 x2 u0 u1 ud s d PD cd (fun j => u.ownBlock = some j) (fun _ => Iff.rfl) w0 w hB hoS (fun W hW => blk_kept hX hW (far _ h0 h1)) (fun W hW => blk_kept hX2 hW (far _ hb2.1 hb2.2)) hT hv hl hsc hscl (by omega) (by omega) hr rr ?_).mono ?_
      · rcases h2 with ⟨hq | hq, e⟩ | ⟨_, hq, e⟩
        · cases hq
        · exact .inl ⟨hq, e⟩
        · exact .inr ⟨hq, e⟩
      · rintro e w' ⟨he, hR', hB', hK'⟩
        exact ⟨he, Kd.R_mono hR' (fun _ _ => trivial), hB', hK'⟩
  rcases hd with rfl | rfl
  · exact key t0 u0 D0 m0 hpl hr hR0 (.inl ⟨rfl, rfl, rfl⟩)
  · exact key t1 u1 D1 m1 hpl hr hR1 (.inr ⟨rfl, rfl, rfl⟩)
set_option maxHeartbeats 800000 in
set_option maxRecDepth 100000 in
theorem kern4_Plain.err (k : Nat) (hk : k ≤ 20) (t0 t1 : List Int) (u0 u1 s : Int) (lo hi b : Nat) (A : Option Addr) (m c : Nat) (d er : Int) (w : World) (K : hk_K4 k t0 t1 u0 u1 s lo hi b w) (h : hk_err k m d er) :
    Calls Tryd.prog 51 #[.pointer (some ⟨b, 0, none⟩), .slice A m c, .int .i64 d] w fun e w' => e = .returned (.int .i64 er) ∧ Drawn0 w w' := by
  obtain ⟨_, b2, v0, v1, x0, x1, x2, _, hX, hX2, _, _⟩ := K
  have HX2 := Aside0.mk hX2
  have hc0 := hk_blk_cell hX 0 _ rfl
  have hs := hk_shl_k hk
  clear hX hX2 hk
  rcases h with ⟨hm, rfl⟩ | ⟨hm, hd, rfl⟩
  · have hcond : ((m : Int) != wrap64 (2 ^ min (IntKind.u64.wrap (k : Int)).toNat 64)) = true := by rw [hs]; exact bne_iff_ne.2 (by omega)
    clear hs hm
    go_enter Tryd.func51, Tryd.ntmps51
    go_wp2_with (go_at_call 23; (with_reducible refine (hk_kern2_K.calls b2 x0 x1 x2 k _ HX2.out).mono ?_); rintro e w1 ⟨rfl, hb1⟩; have hb1 := Aside0.mk hb1)
    go_ret
    exact ⟨rfl, by repeat (first | exact hb1.out | apply Drawn0.step)⟩
  · have hcond : ((m : Int) != wrap64 (2 ^ min (IntKind.u64.wrap (k : Int)).toNat 64)) = false := by rw [hs, hm]; exact bne_self_eq_false _
    clear hs hm
    by_cases c : d < 0
    · have d1 : decide (d < 0) = true := decide_eq_true c
      clear c hd
      go_enter Tryd.func51, Tryd.ntmps51
      go_wp2_with (go_at_call 23; (with_reducible refine (hk_kern2_K.calls b2 x0 x1 x2 k _ HX2.out).mono ?_); rintro e w1 ⟨rfl, hb1⟩; have hb1 := Aside0.mk hb1)
      go_ret
      exact ⟨rfl, by repeat (first | exact hb1.out | apply Drawn0.step)⟩
    · have d1 : decide (d < 0) = false := decide_eq_false c
      have d2 : decide (1 < d) = true := decide_eq_true (by omega)
      clear c hd
      go_enter Tryd.func51, Tryd.ntmps51
      go_wp2_with (go_at_call 23; (with_reducible refine (hk_kern2_K.calls b2 x0 x1 x2 k _ HX2.out).mono ?_); rintro e w1 ⟨rfl, hb1⟩; have hb1 := Aside0.mk hb1)
      go_ret
      exact ⟨rfl, by repeat (first | exact hb1.out | apply Drawn0.step)⟩
set_option maxHeartbeats 800000 in
set_option maxRecDepth 100000 in
theorem kern4_Run.err (k : Nat) (hk : k ≤ 20) (t0 t1 : List Int) (u0 u1 s : Int) (lo hi b : Nat) (A : Option Addr) (m c : Nat) (d er : Int) (w : World) (K : hk_K4 k t0 t1 u0 u1 s lo hi b w) (h : hk_err k m d er) :
    Calls Tryd.prog 29 #[.pointer (some ⟨b, 0, none⟩), .slice A m c, .int .i64 d] w fun e w' => e = .returned (.int .i64 er) ∧ Drawn0 w w' := by
  have C := Aside0.mk (kern4_Plain.err k hk t0 t1 u0 u1 s lo hi b A m c d er w K h)
  have he : er = 4 ∨ er = 18 := by rcases h with ⟨_, h⟩ | ⟨_, _, h⟩ <;> omega
  clear K h hk
  rcases he with rfl | rfl
  · go_enter Tryd.func29, Tryd.ntmps29
    go_wp2_with (go_at_call 51; (with_reducible refine (C.out).mono ?_); rintro e w1 ⟨rfl, hb1⟩; have hb1 := Aside0.mk hb1)
    go_ret
    exact ⟨rfl, by repeat (first | exact hb1.out | apply Drawn0.step)⟩
  · go_enter Tryd.func29, Tryd.ntmps29
    go_wp2_with (go_at_call 51; (with_reducible refine (C.out).mono ?_); rintro e w1 ⟨rfl, hb1⟩; have hb1 := Aside0.mk hb1)
    go_ret
    exact ⟨rfl, by repeat (first | exact hb1.out | apply Drawn0.step)⟩
theorem hk_Run4.run (n k : Nat) (hk : k ≤ 20) (u : Value) (l0 rr t0 t1 : List Int) (u0 u1 s d : Int) (lo b : Nat) (w2 w : World) (H2 : Below w2.heap.size w2 w) (K : hk_K4 k t0 t1 u0 u1 s lo w2.heap.size b w2)
    (ho : Kd.R (Kd.int .u64) 32 w w2.heap.size (fun _ => True) u l0) (h : hk_run4 n k t0 t1 u0 u1 s d false l0 rr) :
    Calls Tryd.prog 29 #[.pointer (some ⟨b, 0, none⟩), u, .int .i64 d] w fun e w' => e = .returned (.int .i64 0) ∧ Kd.R (Kd.int .u64) 32 w' w2.heap.size (fun _ => True) u rr ∧ Below w2.heap.size w2 w' ∧ Kept w w' (fun j => u.ownBlock = some j) := by
  have h := hk_Run4.use n k hk u l0 rr t0 t1 u0 u1 s d lo w2.heap.size b false w2 w H2 (K.below H2) ho (fun j hj => .inr ((Kd.R_bound ho).1 j hj).2.1) h
  rw [if_neg (by decide)] at h
  exact h
theorem hk_Run4.plain (n k : Nat) (hk : k ≤ 20) (u : Value) (l0 rr t0 t1 : List Int) (u0 u1 s d : Int) (lo b : Nat) (w2 w : World) (H2 : Below w2.heap.size w2 w) (K : hk_K4 k t0 t1 u0 u1 s lo w2.heap.size b w2)
    (ho : Kd.R (Kd.int .u64) 32 w w2.heap.size (fun _ => True) u l0) (h : hk_run4 n k t0 t1 u0 u1 s d true l0 rr) :
    Calls Tryd.prog 51 #[.pointer (some ⟨b, 0, none⟩), u, .int .i64 d] w fun e w' => e = .returned (.int .i64 0) ∧ Kd.R (Kd.int .u64) 32 w' w2.heap.size (fun _ => True) u rr ∧ Below w2.heap.size w2 w' ∧ Kept w w' (fun j => u.ownBlock = some j) := by
  have h := hk_Run4.use n k hk u l0 rr t0 t1 u0 u1 s d lo w2.heap.size b true w2 w H2 (K.below H2) ho (fun j hj => .inr ((Kd.R_bound ho).1 j hj).2.1) h
  rw [if_pos rfl] at h
  exact h

/-! ### abacistlaw10_QuartersAlike: function 8 (by hand) -/
theorem hk_Run4.go (n k : Nat) (hk : k ≤ 20) (u : Value) (l0 rr t0 t1 : List Int) (u0 u1 s d : Int) (lo hi b : Nat) (w0 w : World) (hB : Below w0.heap.size w0 w) (K : hk_K4 k t0 t1 u0 u1 s lo hi b w)
    (ho : Kd.R (Kd.int .u64) 32 w w0.heap.size (fun _ => True) u l0) (hu : ∀ j, u.ownBlock = some j → j < lo ∨ hi ≤ j) (h : hk_run4 n k t0 t1 u0 u1 s d false l0 rr) :
    Calls Tryd.prog 29 #[.pointer (some ⟨b, 0, none⟩), u, .int .i64 d] w fun e w' => e = .returned (.int .i64 0) ∧ Kd.R (Kd.int .u64) 32 w' w0.heap.size (fun _ => True) u rr ∧ Below w0.heap.size w0 w' ∧ Kept w w' (fun j => u.ownBlock = some j) := by
  have h := hk_Run4.use n k hk u l0 rr t0 t1 u0 u1 s d lo hi b false w0 w hB K ho hu h
  rw [if_neg (by decide)] at h
  exact h
theorem hk_Run2.go (n k : Nat) (hk : k ≤ 10) (u : Value) (l0 rr t0 t1 : List Int) (s d : Int) (lo hi b : Nat) (w0 w : World) (hG : Aside0 (TzTab w)) (hB : Below w0.heap.size w0 w) (K : hk_K2 k t0 t1 s lo hi b w)
    (ho : Kd.R (Kd.int .u64) 32 w w0.heap.size (fun _ => True) u l0) (hu : ∀ j, u.ownBlock = some j → j < lo ∨ hi ≤ j) (h : hk_run2 n k t0 t1 s d false l0 rr) :
    Calls Tryd.prog 24 #[.pointer (some ⟨b, 0, none⟩), u, .int .i64 d] w fun e w' => e = .returned (.int .i64 0) ∧ Kd.R (Kd.int .u64) 32 w' w0.heap.size (fun _ => True) u rr ∧ Below w0.heap.size w0 w' ∧ Kept w w' (fun j => u.ownBlock = some j) := by
  have h := hk_Run2.use n k hk u l0 rr t0 t1 s d lo hi b false w0 w hG hB K ho hu h
  rw [if_neg (by decide)] at h
  exact h
/-- What stands behind the kernels' making: three rows of one's own, and both kernels. -/
structure hk_QA3 (w : World) (k N ga gb gw ca cb cw : Nat) (t0 t1 : List Int) (u0 u1 s : Int) (p0 p1 : List Int) (s2 : Int) (lo4 hi4 b4 lo2 hi2 b2 : Nat) (xa xb xw : List Int) (W : World) : Prop where
  B : Below w.heap.size w W
  Ra : Kd.R (Kd.int .u64) 32 W w.heap.size (fun j => j = ga) (.slice (some ⟨ga, 0, none⟩) N ca) xa
  Rb : Kd.R (Kd.int .u64) 32 W w.heap.size (fun j => j = gb) (.slice (some ⟨gb, 0, none⟩) N cb) xb
  Rw : Kd.R (Kd.int .u64) 32 W w.heap.size (fun j => j = gw) (.slice (some ⟨gw, 0, none⟩) N cw) xw
  K4 : hk_K4 k t0 t1 u0 u1 s lo4 hi4 b4 W
  K2 : hk_K2 k p0 p1 s2 lo2 hi2 b2 W
  ne : ga ≠ gb ∧ ga ≠ gw ∧ gb ≠ gw
  lt : ga < lo4 ∧ gb < lo4 ∧ gw < lo4 ∧ lo4 ≤ lo2
section
variable {w : World} {k N ga gb gw ca cb cw : Nat} {t0 t1 : List Int} {u0 u1 s : Int} {p0 p1 : List Int} {s2 : Int} {lo4 hi4 b4 lo2 hi2 b2 : Nat} {xa xb xw : List Int} {W W' : World}
theorem hk_QA3.below (h : hk_QA3 w k N ga gb gw ca cb cw t0 t1 u0 u1 s p0 p1 s2 lo4 hi4 b4 lo2 hi2 b2 xa xb xw W) (hb : Below W.heap.size W W') : hk_QA3 w k N ga gb gw ca cb cw t0 t1 u0 u1 s p0 p1 s2 lo4 hi4 b4 lo2 hi2 b2 xa xb xw W' :=
  ⟨h.B.trans (hb.mono h.B.size), Kd.R_below h.Ra hb, Kd.R_below h.Rb hb, Kd.R_below h.Rw hb, h.K4.below hb, h.K2.below hb, h.ne, h.lt⟩
theorem hk_QA3.len (h : hk_QA3 w k N ga gb gw ca cb cw t0 t1 u0 u1 s p0 p1 s2 lo4 hi4 b4 lo2 hi2 b2 xa xb xw W) : xa.length = N ∧ xb.length = N ∧ xw.length = N := ⟨(Kd.R_reads' h.Ra).1.symm, (Kd.R_reads' h.Rb).1.symm, (Kd.R_reads' h.Rw).1.symm⟩
theorem hk_QA3.putA (h : hk_QA3 w k N ga gb gw ca cb cw t0 t1 u0 u1 s p0 p1 s2 lo4 hi4 b4 lo2 hi2 b2 xa xb xw W) {r : List Int} (hR : Kd.R (Kd.int .u64) 32 W' w.heap.size (fun _ => True) (.slice (some ⟨ga, 0, none⟩) N ca) r) (hB : Below w.heap.size w W') (hK : Kept W W' (fun j => (Value.slice (some ⟨ga, 0, none⟩) N ca).ownBlock = some j)) : hk_QA3 w k N ga gb gw ca cb cw t0 t1 u0 u1 s p0 p1 s2 lo4 hi4 b4 lo2 hi2 b2 r xb xw W' := by
  obtain ⟨n1, n2, n3⟩ := h.ne
  obtain ⟨l1, l2, l3, l4⟩ := h.lt
  have own : ∀ j, (Value.slice (some ⟨ga, 0, none⟩) N ca).ownBlock = some j → ga = j := fun j hj => by simpa [Value.ownBlock] using hj
  exact ⟨hB, Kd.R_flat (fun h => h) hR (fun q hq _ => (own q hq).symm), Kd.R_kept h.Rb hK (fun j hj hs => by have := own j hs; omega), Kd.R_kept h.Rw hK (fun j hj hs => by have := own j hs; omega), h.K4.kept hK (fun j hs => by have := own j hs; omega), h.K2.kept hK (fun j hs => by have := own j hs; omega), h.ne, h.lt⟩
theorem hk_QA3.putB (h : hk_QA3 w k N ga gb gw ca cb cw t0 t1 u0 u1 s p0 p1 s2 lo4 hi4 b4 lo2 hi2 b2 xa xb xw W) {r : List Int} (hR : Kd.R (Kd.int .u64) 32 W' w.heap.size (fun _ => True) (.slice (some ⟨gb, 0, none⟩) N cb) r) (hB : Below w.heap.size w W') (hK : Kept W W' (fun j => (Value.slice (some ⟨gb, 0, none⟩) N cb).ownBlock = some j)) : hk_QA3 w k N ga gb gw ca cb cw t0 t1 u0 u1 s p0 p1 s2 lo4 hi4 b4 lo2 hi2 b2 xa r xw W' := by
  obtain ⟨n1, n2, n3⟩ := h.ne
  obtain ⟨l1, l2, l3, l4⟩ := h.lt
  have own : ∀ j, (Value.slice (some ⟨gb, 0, none⟩) N cb).ownBlock = some j → gb = j := fun j hj => by simpa [Value.ownBlock] using hj
  exact ⟨hB, Kd.R_kept h.Ra hK (fun j hj hs => by have := own j hs; omega), Kd.R_flat (fun h => h) hR (fun q hq _ => (own q hq).symm), Kd.R_kept h.Rw hK (fun j hj hs => by have := own j hs; omega), h.K4.kept hK (fun j hs => by have := own j hs; omega), h.K2.kept hK (fun j hs => by have := own j hs; omega), h.ne, h.lt⟩
theorem hk_QA3.run4a (h : hk_QA3 w k N ga gb gw ca cb cw t0 t1 u0 u1 s p0 p1 s2 lo4 hi4 b4 lo2 hi2 b2 xa xb xw W) (n : Nat) (hk : k ≤ 20) (d : Int) (r : List Int) (hr : hk_run4 n k t0 t1 u0 u1 s d false xa r) :
    Calls Tryd.prog 29 #[.pointer (some ⟨b4, 0, none⟩), .slice (some ⟨ga, 0, none⟩) N ca, .int .i64 d] W fun e W' => e = .returned (.int .i64 0) ∧ hk_QA3 w k N ga gb gw ca cb cw t0 t1 u0 u1 s p0 p1 s2 lo4 hi4 b4 lo2 hi2 b2 r xb xw W' := by
  refine (hk_Run4.go n k hk (.slice (some ⟨ga, 0, none⟩) N ca) xa r t0 t1 u0 u1 s d lo4 hi4 b4 w W h.B h.K4 (Kd.R_mono h.Ra (fun _ _ => trivial)) (fun j hj => .inl (by have e : ga = j := (by simpa [Value.ownBlock] using hj); have := h.lt.1; omega)) hr).mono ?_
  rintro e W' ⟨rfl, hR, hB, hK⟩
  exact ⟨rfl, h.putA hR hB hK⟩
theorem hk_QA3.run4b (h : hk_QA3 w k N ga gb gw ca cb cw t0 t1 u0 u1 s p0 p1 s2 lo4 hi4 b4 lo2 hi2 b2 xa xb xw W) (n : Nat) (hk : k ≤ 20) (d : Int) (r : List Int) (hr : hk_run4 n k t0 t1 u0 u1 s d false xb r) :
    Calls Tryd.prog 29 #[.pointer (some ⟨b4, 0, none⟩), .slice (some ⟨gb, 0, none⟩) N cb, .int .i64 d] W fun e W' => e = .returned (.int .i64 0) ∧ hk_QA3 w k N ga gb gw ca cb cw t0 t1 u0 u1 s p0 p1 s2 lo4 hi4 b4 lo2 hi2 b2 xa r xw W' := by
  refine (hk_Run4.go n k hk (.slice (some ⟨gb, 0, none⟩) N cb) xb r t0 t1 u0 u1 s d lo4 hi4 b4 w W h.B h.K4 (Kd.R_mono h.Rb (fun _ _ => trivial)) (fun j hj => .inl (by have e : gb = j := (by simpa [Value.ownBlock] using hj); have := h.lt.2.1; omega)) hr).mono ?_
  rintro e W' ⟨rfl, hR, hB, hK⟩
  exact ⟨rfl, h.putB hR hB hK⟩
theorem hk_QA3.run2a (h : hk_QA3 w k N ga gb gw ca cb cw t0 t1 u0 u1 s p0 p1 s2 lo4 hi4 b4 lo2 hi2 b2 xa xb xw W) (hG : Aside0 (TzTab w)) (n : Nat) (hk : k ≤ 10) (d : Int) (r : List Int) (hr : hk_run2 n k p0 p1 s2 d false xa r) :
    Calls Tryd.prog 24 #[.pointer (some ⟨b2, 0, none⟩), .slice (some ⟨ga, 0, none⟩) N ca, .int .i64 d] W fun e W' => e = .returned (.int .i64 0) ∧ hk_QA3 w k N ga gb gw ca cb cw t0 t1 u0 u1 s p0 p1 s2 lo4 hi4 b4 lo2 hi2 b2 r xb xw W' := by
  refine (hk_Run2.go n k hk (.slice (some ⟨ga, 0, none⟩) N ca) xa r p0 p1 s2 d lo2 hi2 b2 w W ⟨hG.out.below h.B⟩ h.B h.K2 (Kd.R_mono h.Ra (fun _ _ => trivial)) (fun j hj => .inl (by have e : ga = j := (by simpa [Value.ownBlock] using hj); have := h.lt; omega)) hr).mono ?_
  rintro e W' ⟨rfl, hR, hB, hK⟩
  exact ⟨rfl, h.putA hR hB hK⟩
theorem hk_QA3.run2b (h : hk_QA3 w k N ga gb gw ca cb cw t0 t1 u0 u1 s p0 p1 s2 lo4 hi4 b4 lo2 hi2 b2 xa xb xw W) (hG : Aside0 (TzTab w)) (n : Nat) (hk : k ≤ 10) (d : Int) (r : List Int) (hr : hk_run2 n k p0 p1 s2 d false xb r) :
    Calls Tryd.prog 24 #[.pointer (some ⟨b2, 0, none⟩), .slice (some ⟨gb, 0, none⟩) N cb, .int .i64 d] W fun e W' => e = .returned (.int .i64 0) ∧ hk_QA3 w k N ga gb gw ca cb cw t0 t1 u0 u1 s p0 p1 s2 lo4 hi4 b4 lo2 hi2 b2 xa r xw W' := by
  refine (hk_Run2.go n k hk (.slice (some ⟨gb, 0, none⟩) N cb) xb r p0 p1 s2 d lo2 hi2 b2 w W ⟨hG.out.below h.B⟩ h.B h.K2 (Kd.R_mono h.Rb (fun _ _ => trivial)) (fun j hj => .inl (by have e : gb = j := (by simpa [Value.ownBlock] using hj); have := h.lt; omega)) hr).mono ?_
  rintro e W' ⟨rfl, hR, hB, hK⟩
  exact ⟨rfl, h.putB hR hB hK⟩
end
theorem hk_same_at (k : Nat) (A0 : Option Addr) (c0 m0 : Nat) (l0 : List Int) (A1 : Option Addr) (c1 m1 : Nat) (l1 : List Int) (r : Bool) (w : World) (h0 : m0 = l0.length) (h1 : m1 = l1.length) (hr0 : Kd.C (Kd.int .u64) w A0 l0.length l0) (hc0 : l0.length ≤ c0) (hr1 : Kd.C (Kd.int .u64) w A1 l1.length l1) (hc1 : l1.length ≤ c1) (h : abacistref04_Same.f k l0 l1 = some r) :
    Calls Tryd.prog 12 #[.slice A0 m0 c0, .slice A1 m1 c1] w fun e w' => e = .returned (.bool r) ∧ Drawn0 w w' := by
  subst h0 h1
  exact abacistref04_Same.calls k A0 c0 l0 A1 c1 l1 r w hr0 hc0 hr1 hc1 h
section
variable {w : World} {k N ga gb gw ca cb cw : Nat} {t0 t1 : List Int} {u0 u1 s : Int} {p0 p1 : List Int} {s2 : Int} {lo4 hi4 b4 lo2 hi2 b2 : Nat} {xa xb xw : List Int} {W W' : World}
theorem hk_QA3.sameAB (h : hk_QA3 w k N ga gb gw ca cb cw t0 t1 u0 u1 s p0 p1 s2 lo4 hi4 b4 lo2 hi2 b2 xa xb xw W) (n : Nat) (r : Bool) (hr : abacistref04_Same.f n xa xb = some r) :
    Calls Tryd.prog 12 #[.slice (some ⟨ga, 0, none⟩) N ca, .slice (some ⟨gb, 0, none⟩) N cb] W fun e W' => e = .returned (.bool r) ∧ hk_QA3 w k N ga gb gw ca cb cw t0 t1 u0 u1 s p0 p1 s2 lo4 hi4 b4 lo2 hi2 b2 xa xb xw W' := by
  obtain ⟨e1, e2, e3⟩ := h.len
  refine (hk_same_at n (some ⟨ga, 0, none⟩) ca N xa (some ⟨gb, 0, none⟩) cb N xb r W e1.symm e2.symm (Kd.R_reads' h.Ra).2.2 (by have := (Kd.R_reads' h.Ra).2.1; omega) (Kd.R_reads' h.Rb).2.2 (by have := (Kd.R_reads' h.Rb).2.1; omega) hr).mono ?_
  rintro e W' ⟨rfl, hd⟩
  exact ⟨rfl, h.below (hk_drawn_below hd)⟩
theorem hk_QA3.sameAW (h : hk_QA3 w k N ga gb gw ca cb cw t0 t1 u0 u1 s p0 p1 s2 lo4 hi4 b4 lo2 hi2 b2 xa xb xw W) (n : Nat) (r : Bool) (hr : abacistref04_Same.f n xa xw = some r) :
    Calls Tryd.prog 12 #[.slice (some ⟨ga, 0, none⟩) N ca, .slice (some ⟨gw, 0, none⟩) N cw] W fun e W' => e = .returned (.bool r) ∧ hk_QA3 w k N ga gb gw ca cb cw t0 t1 u0 u1 s p0 p1 s2 lo4 hi4 b4 lo2 hi2 b2 xa xb xw W' := by
  obtain ⟨e1, e2, e3⟩ := h.len
  refine (hk_same_at n (some ⟨ga, 0, none⟩) ca N xa (some ⟨gw, 0, none⟩) cw N xw r W e1.symm e3.symm (Kd.R_reads' h.Ra).2.2 (by have := (Kd.R_reads' h.Ra).2.1; omega) (Kd.R_reads' h.Rw).2.2 (by have := (Kd.R_reads' h.Rw).2.1; omega) hr).mono ?_
  rintro e W' ⟨rfl, hd⟩
  exact ⟨rfl, h.below (hk_drawn_below hd)⟩
theorem hk_QA3.sameBW (h : hk_QA3 w k N ga gb gw ca cb cw t0 t1 u0 u1 s p0 p1 s2 lo4 hi4 b4 lo2 hi2 b2 xa xb xw W) (n : Nat) (r : Bool) (hr : abacistref04_Same.f n xb xw = some r) :
    Calls Tryd.prog 12 #[.slice (some ⟨gb, 0, none⟩) N cb, .slice (some ⟨gw, 0, none⟩) N cw] W fun e W' => e = .returned (.bool r) ∧ hk_QA3 w k N ga gb gw ca cb cw t0 t1 u0 u1 s p0 p1 s2 lo4 hi4 b4 lo2 hi2 b2 xa xb xw W' := by
  obtain ⟨e1, e2, e3⟩ := h.len
  refine (hk_same_at n (some ⟨gb, 0, none⟩) cb N xb (some ⟨gw, 0, none⟩) cw N xw r W e2.symm e3.symm (Kd.R_reads' h.Rb).2.2 (by have := (Kd.R_reads' h.Rb).2.1; omega) (Kd.R_reads' h.Rw).2.2 (by have := (Kd.R_reads' h.Rw).2.1; omega) hr).mono ?_
  rintro e W' ⟨rfl, hd⟩
  exact ⟨rfl, h.below (hk_drawn_below hd)⟩
end
/-- The row that the law makes out of a given one: so many words of it. -/
def hk_qa (n : Nat) (l m : List Int) : Nat → Option (List Int)
  | 0 => some m
  | i + 1 => (hk_qa n l m i).bind fun x => (abacistref02_Mul.f n (rd l ((i % l.length : Nat) : Int)) ((i * i + 1 : Nat) : Int)).bind fun v => some (x.set i v)
theorem hk_qa_length {n : Nat} {l m : List Int} : ∀ {i : Nat} {x : List Int}, hk_qa n l m i = some x → x.length = m.length
  | 0, x, h => by rw [← Option.some.inj h]
  | i + 1, x, h => by
    unfold hk_qa at h
    obtain ⟨y, hy, h⟩ := Option.bind_eq_some_iff.1 h
    obtain ⟨v, _, h⟩ := Option.bind_eq_some_iff.1 h
    rw [← Option.some.inj h, List.length_set]
    exact hk_qa_length hy
theorem hk_qa_down {n : Nat} {l m : List Int} : ∀ {i j : Nat} {r : List Int}, hk_qa n l m (i + j) = some r → ∃ x, hk_qa n l m i = some x
  | i, 0, r, h => ⟨r, h⟩
  | i, j + 1, r, h => by
    unfold hk_qa at h
    obtain ⟨y, hy, _⟩ := Option.bind_eq_some_iff.1 h
    exact hk_qa_down (j := j) hy
/-- What the law asks, case by case. -/
def hk_QA (n : Nat) (l : List Int) (kk dir : Int) : Prop := abacistlaw10_awake.f n = some true ∧ (
  40 < l.length ∨ (l.length ≤ 40 ∧ ¬ (dir = 0 ∨ dir = 1)) ∨
  (l.length ≤ 40 ∧ (0 ≤ kk ∧ kk ≤ 255) ∧ ∃ dir2 : Int, ((dir = 0 ∧ dir2 = 1) ∨ (dir = 1 ∧ dir2 = 0)) ∧ ∃ k : Nat, k ≤ 10 ∧ Int.tmod kk 11 = (k : Int) ∧ ∃ (t0 t1 : List Int) (u0 u1 s : Int) (p0 p1 : List Int) (s2 : Int) (a r : List Int), hk_tabs4 n k t0 t1 u0 u1 s ∧ hk_tabs2 n k p0 p1 s2 ∧
    (if l.length = 0 then a = List.replicate (2 ^ k) 0 else hk_qa n l (List.replicate (2 ^ k) 0) (2 ^ k) = some a) ∧ a.length = 2 ^ k ∧ hk_run4 n k t0 t1 u0 u1 s dir false a r ∧ hk_run2 n k p0 p1 s2 dir false a r ∧ abacistref04_Same.f n r r = some true ∧
    hk_run2 n k p0 p1 s2 dir2 false r a ∧ hk_run4 n k t0 t1 u0 u1 s dir2 false r a ∧ abacistref04_Same.f n a a = some true))
set_option maxHeartbeats 8000000 in
set_option maxRecDepth 100000 in
theorem hk_QA.no (n : Nat) (A0 : Option Addr) (c0 : Nat) (l : List Int) (kk dir : Int) (w : World) (hG : Aside0 (TzTab w)) (hA : abacistlaw10_awake.f n = some true) (h : 40 < l.length ∨ (l.length ≤ 40 ∧ ¬ (dir = 0 ∨ dir = 1))) :
    Calls Tryd.prog 8 #[.slice A0 l.length c0, .int .u8 kk, .int .i64 dir] w fun e w' => e = .returned (.bool true) ∧ Below w.heap.size w w' := by
  have AW := Aside0.mk hA
  clear hA
  rcases h with h | ⟨h, h1⟩
  · have d1 : decide (40 < (l.length : Int)) = true := decide_eq_true (by omega)
    have d1c : (40 < l.length) = True := eq_true h
    clear h
    go_enter Tryd.func8, Tryd.ntmps8
    go_wp2_with ((go_at_call 27; (with_reducible refine (abacistlaw10_awake.calls n true _ AW.out).mono ?_); rintro e w1 ⟨rfl, hb1⟩; have hb1 := Aside0.mk hb1))
    go_ret
    exact ⟨rfl, hb1.out⟩
  · have d1 : decide (40 < (l.length : Int)) = false := decide_eq_false (by omega)
    have d1c : (40 < l.length) = False := eq_false (by omega)
    have hd0 : (dir != 0) = true := bne_iff_ne.2 (by omega)
    have hd1 : (dir != 1) = true := bne_iff_ne.2 (by omega)
    clear h h1
    go_enter Tryd.func8, Tryd.ntmps8
    go_wp2_with ((go_at_call 27; (with_reducible refine (abacistlaw10_awake.calls n true _ AW.out).mono ?_); rintro e w1 ⟨rfl, hb1⟩; have hb1 := Aside0.mk hb1))
    go_ret
    exact ⟨rfl, hb1.out⟩
theorem hk_wrapz {z : Nat} (h : z ≤ 1048577) : wrap64 (z : Int) = (z : Int) ∧ IntKind.u64.wrap (z : Int) = (z : Int) :=
  ⟨by unfold wrap64; omega, by simp [IntKind.wrap, IntKind.bits, IntKind.signed]; omega⟩
theorem hk_sq {i N : Nat} (h : i < N) (hN : N ≤ 1024) : wrap64 ((i : Int) * (i : Int)) = (i : Int) * (i : Int) ∧ wrap64 ((i : Int) * (i : Int) + 1) = (i : Int) * (i : Int) + 1 ∧ IntKind.u64.wrap ((i : Int) * (i : Int) + 1) = (i : Int) * (i : Int) + 1 := by
  have hii : i * i ≤ 1048576 := Nat.le_trans (Nat.mul_le_mul (show i ≤ 1024 by omega) (show i ≤ 1024 by omega)) (by decide)
  have hiz : (i : Int) * (i : Int) = ((i * i : Nat) : Int) := by push_cast; rfl
  have ez : (i : Int) * (i : Int) + 1 = ((i * i + 1 : Nat) : Int) := by push_cast; rfl
  rw [ez, hiz]
  generalize i * i = z at hii
  exact ⟨(hk_wrapz (by omega)).1, (hk_wrapz (by omega)).1, (hk_wrapz (by omega)).2⟩
theorem hk_qa_start {w wr W2 W3 W4 : World} {k N ga gb gw cw : Nat} {t0 t1 : List Int} {u0 u1 s : Int} {p0 p1 : List Int} {s2 : Int} {b4 b2 : Nat} {x : List Int} (hB : Below w.heap.size w wr) (h2 : Below wr.heap.size wr W2) (h3 : Below W2.heap.size W2 W3) (h4 : Below W3.heap.size W3 W4)
    (RA : Kd.R (Kd.int .u64) 32 W2 w.heap.size (fun j => j = ga) (.slice (some ⟨ga, 0, none⟩) N N) x) (RB : Kd.R (Kd.int .u64) 32 W2 w.heap.size (fun j => j = gb) (.slice (some ⟨gb, 0, none⟩) N N) x) (RW : Kd.R (Kd.int .u64) 32 W2 wr.heap.size (fun _ => True) (.slice (some ⟨gw, 0, none⟩) N cw) x)
    (ne : ga ≠ gb) (gwb : wr.heap.size ≤ gw ∧ gw < W2.heap.size) (la : ga < wr.heap.size) (lb : gb < wr.heap.size) (K4 : hk_K4 k t0 t1 u0 u1 s W2.heap.size W3.heap.size b4 W3) (K2 : hk_K2 k p0 p1 s2 W3.heap.size W4.heap.size b2 W4) :
    hk_QA3 w k N ga gb gw N N cw t0 t1 u0 u1 s p0 p1 s2 W2.heap.size W3.heap.size b4 W3.heap.size W4.heap.size b2 x x x W4 := by
  have s2_ := h2.size
  have s3_ := h3.size
  have s1_ := hB.size
  have h24 : Below W2.heap.size W2 W4 := h3.trans (h4.mono s3_)
  have hw2 : Below w.heap.size w W2 := hB.trans (h2.mono s1_)
  refine ⟨hw2.trans (h24.mono hw2.size), Kd.R_below RA h24, Kd.R_below RB h24, Kd.R_below (Kd.R_lower (Kd.R_flat (fun h => h) RW (fun q hq _ => (Option.some.inj hq).symm)) s1_) h24, K4.below h4, K2, ⟨ne, by omega, by omega⟩, ⟨by omega, by omega, by omega, s3_⟩⟩
theorem hk_rd_set {x : List Int} {i : Nat} {v : Int} (h : i < x.length) : rd (x.set i v) (i : Int) = v := by
  unfold rd
  rw [Int.toNat_natCast, List.getD_eq_getElem?_getD, List.getElem?_set_self h]; rfl
theorem hk_two_mz {N : Nat} (h : N ≤ 1048576) {w w1 : World} (hb : Below w.heap.size w w1) :
    Kd.R (Kd.int .u64) 32 ((w1.alloc (.cells (hk_mz N) 32)).alloc (.cells (hk_mz N) 32)).drew w.heap.size (fun j => j = w1.heap.size) (.slice (some ⟨w1.heap.size, 0, none⟩) N N) (List.replicate N 0) ∧
    Kd.R (Kd.int .u64) 32 ((w1.alloc (.cells (hk_mz N) 32)).alloc (.cells (hk_mz N) 32)).drew w.heap.size (fun j => j = w1.heap.size + 1) (.slice (some ⟨w1.heap.size + 1, 0, none⟩) N N) (List.replicate N 0) ∧
    Below w.heap.size w ((w1.alloc (.cells (hk_mz N) 32)).alloc (.cells (hk_mz N) 32)).drew := by
  have h1 := hk_mz_R (W := w1) (base := w.heap.size) (ok := fun j => j = w1.heap.size) h hb.size rfl
  have e : (w1.alloc (.cells (hk_mz N) 32)).heap.size = w1.heap.size + 1 := by simp
  have hs := hb.size
  have h2 := hk_mz_R (W := w1.alloc (.cells (hk_mz N) 32)) (base := w.heap.size) (ok := fun j => j = w1.heap.size + 1) h (by omega) e
  rw [e] at h2
  exact ⟨Kd.R_drew (Kd.R_alloc h1 _), Kd.R_drew h2, ((hb.alloc hs _).alloc (by omega) _).drew⟩
set_option maxHeartbeats 8000000 in
set_option maxRecDepth 100000 in
theorem hk_QA.good (n : Nat) (A0 : Option Addr) (c0 : Nat) (l : List Int) (kk dir dir2 : Int) (w : World) (hG : Aside0 (TzTab w)) (hr0 : Kd.C (Kd.int .u64) w A0 l.length l) (hc0 : l.length ≤ c0) (hA : abacistlaw10_awake.f n = some true) (h40 : l.length ≤ 40) (hd : (dir = 0 ∧ dir2 = 1) ∨ (dir = 1 ∧ dir2 = 0)) (k : Nat) (hk : k ≤ 10) (hkk : Int.tmod kk 11 = (k : Int)) (hku : 0 ≤ kk ∧ kk ≤ 255) (t0 t1 : List Int) (u0 u1 s : Int) (p0 p1 : List Int) (s2 : Int) (a r : List Int) (hT4 : hk_tabs4 n k t0 t1 u0 u1 s) (hT2 : hk_tabs2 n k p0 p1 s2)
    (ha : if l.length = 0 then a = List.replicate (2 ^ k) 0 else hk_qa n l (List.replicate (2 ^ k) 0) (2 ^ k) = some a) (hal : a.length = 2 ^ k) (h4 : hk_run4 n k t0 t1 u0 u1 s dir false a r) (h2 : hk_run2 n k p0 p1 s2 dir false a r) (hS : abacistref04_Same.f n r r = some true)
    (h2b : hk_run2 n k p0 p1 s2 dir2 false r a) (h4b : hk_run4 n k t0 t1 u0 u1 s dir2 false r a) (hSa : abacistref04_Same.f n a a = some true) :
    Calls Tryd.prog 8 #[.slice A0 l.length c0, .int .u8 kk, .int .i64 dir] w fun e w' => e = .returned (.bool true) ∧ Below w.heap.size w w' := by
  have AW := Aside0.mk hA
  have HR0 := Aside0.mk hr0
  have HC0 := Aside0.mk hc0
  have HK := Aside0.mk hk
  have HT4 := Aside0.mk hT4
  have HT2 := Aside0.mk hT2
  have HA := Aside0.mk ha
  have HAL := Aside0.mk hal
  have R4 := Aside0.mk h4
  have R2 := Aside0.mk h2
  have SM := Aside0.mk hS
  have R2b := Aside0.mk h2b
  have R4b := Aside0.mk h4b
  have SA := Aside0.mk hSa
  have HL := Aside0.mk h40
  have hp20 : 2 ^ k ≤ 1024 := Nat.pow_le_pow_right (n := 2) (by omega) hk
  have hp0 := Nat.two_pow_pos k
  have hs := hk_shl_k (k := k) (by omega)
  obtain ⟨N, hN⟩ : ∃ N, N = 2 ^ k := ⟨_, rfl⟩
  rw [← hN] at hs hp20 hp0
  have HN := Aside0.mk hN
  have HP0 := Aside0.mk hp0
  have HP20 := Aside0.mk hp20
  have d1 : decide (40 < (l.length : Int)) = false := decide_eq_false (by omega)
  have d1c : (40 < l.length) = False := eq_false (by omega)
  have e1 : IntKind.i64.wrap kk = kk := by simp [IntKind.wrap, IntKind.bits, IntKind.signed]; omega
  have e2 : wrap64 kk = kk := by unfold wrap64; omega
  have MK := hk_mz_run (show N ≤ 1048576 by omega)
  clear hr0 hc0 hA hk hT4 hT2 ha hal h4 h2 hS h2b h4b hSa h40 hku hp20 hp0 hN
  rcases hd with ⟨rfl, rfl⟩ | ⟨rfl, rfl⟩
  all_goals
    go_enter Tryd.func8, Tryd.ntmps8
    go_wp2_with ((go_at_call 27; (with_reducible refine (abacistlaw10_awake.calls n true _ AW.out).mono ?_); rintro e w1 ⟨rfl, hb1⟩; have hb1 := Aside0.mk hb1))
    go_cut [8, 9] from 30 to 128 (fun v8 v9 wx => ∃ ga gb, v8 = .slice (some ⟨ga, 0, none⟩) N N ∧ v9 = .slice (some ⟨gb, 0, none⟩) N N ∧ Aside0 (ga ≠ gb) ∧ Aside0 (w.heap.size ≤ ga ∧ w.heap.size ≤ gb) ∧ Aside0 (Kd.R (Kd.int .u64) 32 wx w.heap.size (fun j => j = ga) (.slice (some ⟨ga, 0, none⟩) N N) (List.replicate N 0)) ∧ Aside0 (Kd.R (Kd.int .u64) 32 wx w.heap.size (fun j => j = gb) (.slice (some ⟨gb, 0, none⟩) N N) (List.replicate N 0)) ∧ Aside0 (Below w.heap.size w wx))
    case first =>
      go_region
      all_goals (go_wp2_with fail)
      all_goals go_meet
      all_goals
        case rel =>
          have h2 := hk_two_mz (show N ≤ 1048576 by have := HP20.out; omega) hb1.out
          have h3 := hb1.out.size
          first
            | exact ⟨w1.heap.size, w1.heap.size + 1, rfl, rfl, ⟨by omega⟩, ⟨by omega⟩, ⟨h2.1⟩, ⟨h2.2.1⟩, ⟨h2.2.2⟩⟩
            | exact ⟨w1.heap.size + 1, w1.heap.size, rfl, rfl, ⟨by omega⟩, ⟨by omega⟩, ⟨h2.2.1⟩, ⟨h2.1⟩, ⟨h2.2.2⟩⟩
    obtain ⟨ga, gb, rfl, rfl, NE, GE, RA, RB, HB⟩ := hcut
    clear MK hb1
    go_wp2_with fail
    go_loopg [10] (N) (fun kq v10 w' => ∃ (i : Nat) (x : List Int), v10 = .int .i64 (i : Int) ∧ Aside0 (kq + i = N) ∧ Aside0 (l.length = 0 → i = 0) ∧ Aside0 (hk_qa n l (List.replicate N 0) i = some x) ∧ Aside0 (Kd.R (Kd.int .u64) 32 w' w.heap.size (fun j => j = ga) (.slice (some ⟨ga, 0, none⟩) N N) x) ∧ Aside0 (Kd.R (Kd.int .u64) 32 w' w.heap.size (fun j => j = gb) (.slice (some ⟨gb, 0, none⟩) N N) x) ∧ Aside0 (Below w.heap.size w w'))
    case atStart => exact ⟨0, _, by simp, ⟨by omega⟩, ⟨fun _ => rfl⟩, ⟨rfl⟩, RA, RB, HB⟩
    case round =>
      clear RA RB HB
      obtain ⟨i, x, rfl, HI, HZ, HX, RA, RB, HB⟩ := hrel
      by_cases c : i < N ∧ 0 < l.length
      · cases gk with
        | zero => exact absurd HI.out (by omega)
        | succ k1 =>
          have hi := HI.out
          have hll := c.2
          obtain ⟨y, hy⟩ : ∃ y, hk_qa n l (List.replicate N 0) (i + 1) = some y := by
            have ha := HA.out
            rw [if_neg (by omega), ← HN.out] at ha
            exact hk_qa_down (j := k1) (by rw [show i + 1 + k1 = N by omega]; exact ha)
          have HY := Aside0.mk hy
          unfold hk_qa at hy
          rw [HX.out, Option.bind_some] at hy
          obtain ⟨v, hv, hy⟩ := Option.bind_eq_some_iff.1 hy
          have ey := Option.some.inj hy
          have ez : ((i * i + 1 : Nat) : Int) = (i : Int) * (i : Int) + 1 := by push_cast; rfl
          rw [ez] at hv
          have HV := Aside0.mk hv
          have EY := Aside0.mk ey
          have hxl : x.length = N := by rw [hk_qa_length HX.out, List.length_replicate]
          have HXL := Aside0.mk hxl
          obtain ⟨m1, m2, m3⟩ := hk_sq c.1 HP20.out
          obtain ⟨q, hq⟩ : ∃ q : Nat, q = i % l.length := ⟨_, rfl⟩
          have hql : q < l.length := by rw [hq]; exact Nat.mod_lt _ hll
          rw [← hq] at HV
          have m4 : Int.tmod (i : Int) (l.length : Int) = (q : Int) := by rw [Int.tmod_eq_emod_of_nonneg (by omega), hq]; exact (Int.natCast_emod _ _).symm
          have c1 : decide ((i : Int) < (N : Int)) = true := decide_eq_true (by omega)
          have c2 : (i < N) = True := eq_true c.1
          have c3 : decide (0 < (l.length : Int)) = true := decide_eq_true (by omega)
          have c4 : (0 < l.length) = True := eq_true hll
          have c5 : ((l.length : Int) = 0) = False := eq_false (by omega)
          have c6 : (l.length = 0) = False := eq_false (by omega)
          have c7 : (0 ≤ (q : Int)) = True := eq_true (by omega)
          have c8 : ((q : Int) < (l.length : Int)) = True := eq_true (by omega)
          have c9 : (q < l.length) = True := eq_true hql
          have c10 : (0 ≤ (i : Int)) = True := eq_true (by omega)
          have c11 : ((i : Int) < (N : Int)) = True := eq_true (by omega)
          have hRL := Kd.C_below HR0.out HB.out
          obtain ⟨ad, e0, hx⟩ := Kd.at_int hRL (q : Int) (by omega) (by omega)
          rw [Int.toNat_natCast] at hx
          obtain ⟨hxa, hfa⟩ := Kd.R_celln 0 RA.out (i : Int) (by omega) (by omega)
          obtain ⟨hxb, hfb⟩ := Kd.R_celln 0 RB.out (i : Int) (by omega) (by omega)
          rw [Int.toNat_natCast] at hxa hfa hxb hfb
          have E0 := Aside0.mk e0
          subst e0
          clear hi hll hy hv ey ez hxl hq hql hRL
          go_wp2_with ((go_at_call 16; (with_reducible refine (abacistref02_Mul.calls n _ _ v _ HV.out).mono ?_); rintro e w5 ⟨rfl, hb5⟩; obtain ⟨nd, rfl⟩ := hb5.out; clear hb5; have PA := Aside0.mk (Kd.R_putn (Kd.R_drewN RA.out nd) (i : Int) v); have FB := Aside0.mk (Kd.R_far (Kd.R_drewN RB.out nd) (p := ⟨ga, i, none⟩) (fun k hk => by subst hk; exact Ne.symm NE.out) (.int .u64 v)); have fb := Kd.R_celln 0 FB.out (i : Int) (by have := HI.out; omega) (by have := HXL.out; have := HI.out; omega); rw [Int.toNat_natCast] at fb; obtain ⟨hxb2, hfb2⟩ := fb; have fa := Kd.R_celln 0 PA.out (i : Int) (by have := HI.out; omega) (by have := HXL.out; have := HI.out; omega); rw [Int.toNat_natCast] at fa; obtain ⟨hxa2, hfa2⟩ := fa; have ev : rd (x.set i v) (i : Int) = v := hk_rd_set (by have := HXL.out; have := HI.out; omega); rw [show rdOf 0 (x.set i v) (i : Int) = v from ev] at hxa2; clear ev; rw [Int.toNat_natCast] at PA))
          have PB := Aside0.mk (Kd.R_putn FB.out (i : Int) v)
          rw [Int.toNat_natCast, EY.out] at PB
          have PA2 := Aside0.mk (Kd.R_far PA.out (p := ⟨gb, i, none⟩) (fun k hk => by subst hk; exact NE.out) (.int .u64 v))
          rw [EY.out] at PA2
          have HB2 := Aside0.mk (below_set (below_set (pw_below_drewN HB.out nd) GE.out.1 (j := i) (v := .int .u64 v)) GE.out.2 (j := i) (v := .int .u64 v))
          clear hxb2 hfb2 hxa2 hfa2 hxa hfa hxb hfb hx PA FB
          go_roundg k1
          case measure => omega
          case rel => exact ⟨i + 1, y, (by rw [show wrap64 ((i : Int) + 1) = ((i + 1 : Nat) : Int) by have := HI.out; have := HP20.out; unfold wrap64; omega]), ⟨by have := HI.out; omega⟩, ⟨fun h0 => by have := c.2; omega⟩, HY, PA2, PB, HB2⟩
      · have ex : x = a := by
          have ha := HA.out
          by_cases h0 : l.length = 0
          · have hi0 := HZ.out h0
            subst hi0
            rw [if_pos h0, ← HN.out] at ha
            rw [ha]
            exact (Option.some.inj HX.out).symm
          · have hiN : i = N := by have := HI.out; omega
            rw [if_neg h0, ← HN.out] at ha
            have hx := HX.out
            rw [hiN, ha] at hx
            exact (Option.some.inj hx).symm
        subst ex
        have c1 : (decide ((i : Int) < (N : Int)) && decide (0 < (l.length : Int))) = false := by
          rw [Bool.and_eq_false_iff]
          by_cases h1 : i < N
          · exact .inr (decide_eq_false (by omega))
          · exact .inl (decide_eq_false (by omega))
        have c2 : ¬ (i < N ∧ 0 < l.length) := c
        have HXL := Aside0.mk (show x.length = N by rw [hk_qa_length HX.out, List.length_replicate])
        clear HX HZ c
        by_cases c3 : i < N
        · have c4 : ¬ 0 < l.length := fun h => c2 ⟨c3, h⟩
          have d2 : (i < N) = True := eq_true c3
          have d3 : (0 < l.length) = False := eq_false c4
          have d4 : decide ((i : Int) < (N : Int)) = true := decide_eq_true (by omega)
          have d5 : decide (0 < (l.length : Int)) = false := decide_eq_false (by omega)
          clear c1 c2 c3 c4
          go_wp2_with (first | ((with_reducible refine gate_dst (N := 72) rfl ?_); refine Kd.R_lit (Kd.int .u64) wr.heap.size 32 ?hg (N := 72) ?hd (xs := ([] : List Int)) (inner := []) (ok := fun _ => True) (okp := fun _ => True) ?hr ?hp (fun _ hk => hk) trivial (Below.refl _ _) (Nat.le_refl _) (by simp) ?_; (case hd => rfl); (case hg => rfl); (case hr => first | (go_simp; done) | (go_simp; rfl)); (case hp => exact (Reps.none _ _)); intro vq W1 ho2 hb2_ hg_ hnew_; clear hg_ hnew_; have oq := Aside0.mk ho2; have HB1 := Aside0.mk hb2_; have RA1 := Aside0.mk (Kd.R_below RA.out hb2_); have RC1 := Aside0.mk (show Kd.C (Kd.int .u64) W1 (some ⟨ga, 0, none⟩) N x from HXL.out ▸ (Kd.R_reads' RA1.out).2.2); clear ho2 hb2_) | ((with_reducible refine gate_builtin (b := .append) (xs := #[.tmp 72, .tmp 73]) rfl ?_); at_builtin; refine Kd.R_append_rows (Kd.int .u64) (w0 := wr) wr.heap.size rfl (.tmp 72) (.tmp 73) 22 32 (.int .u64 0) 8 rfl Tryd.underlying22 info32 rfl (by decide) (by omega) vq [] x _ _ _ (fun _ => True) (fun _ => False) rfl rfl oq.out RC1.out (fun _ _ h => h) (fun _ h => h.elim) (fun _ _ => trivial) HB1.out HB1.out.size ?aL ?_; (case aL => have := HXL.out; have := HP20.out; simp only [List.length_nil]; omega); intro vw W2 ho3 hb3_ hg_ hat_; rw [List.nil_append] at ho3; obtain ⟨gw, cw, ew, gbw, glw, clw, hGw_⟩ := Kd.R_form ho3 (by have := HXL.out; have := HP0.out; omega); rw [HXL.out] at ew; subst ew; have RW := Aside0.mk ho3; have HB2 := Aside0.mk hb3_; have RA2 := Aside0.mk (Kd.R_below RA.out hb3_); have RB2 := Aside0.mk (Kd.R_below RB.out hb3_); have GW := Aside0.mk (show wr.heap.size ≤ gw ∧ gw < W2.heap.size from ⟨gbw, Kd.R_lt ho3 gw rfl⟩); clear oq RA1 RC1 HB1 ho3 hb3_ hg_ hat_ gbw glw clw hGw_) | (go_at_call 28; (with_reducible refine (hk_New4.at n k t0 t1 u0 u1 s _ (Nat.le_trans HK.out (by decide)) HT4.out).mono ?_); rintro e W3 ⟨b4, rfl, hb_, hk_⟩; have K4 := Aside0.mk hk_; have HB3 := Aside0.mk hb_; clear hb_ hk_) | (go_at_call 22; (with_reducible refine (hk_New2.at n k p0 p1 s2 _ (Nat.le_trans HK.out (by decide)) HT2.out).mono ?_); rintro e W4 ⟨b2, rfl, hb_, hk_⟩; have H := Aside0.mk (hk_qa_start HB.out HB2.out HB3.out hb_ RA2.out RB2.out RW.out NE.out GW.out (Kd.R_lt RA.out ga rfl) (Kd.R_lt RB.out gb rfl) K4.out hk_); clear hb_ hk_ K4 HB3 RA2 RB2 RW HB2) | (go_at_call 29; (with_reducible refine (H.out.run4a n (Nat.le_trans HK.out (by decide)) _ r R4.out).mono ?_); rintro e W5 ⟨rfl, h_⟩; clear H; have H := Aside0.mk h_; clear h_) | (go_at_call 24; (with_reducible refine (H.out.run2b hG n HK.out _ r R2.out).mono ?_); rintro e W6 ⟨rfl, h_⟩; clear H; have H := Aside0.mk h_; clear h_) | (go_at_call 12; (with_reducible refine (H.out.sameAB n true SM.out).mono ?_); rintro e W7 ⟨rfl, h_⟩; clear H; have H := Aside0.mk h_; clear h_) | (go_at_call 24; (with_reducible refine (H.out.run2a hG n HK.out _ x R2b.out).mono ?_); rintro e W8 ⟨rfl, h_⟩; clear H; have H := Aside0.mk h_; clear h_) | (go_at_call 29; (with_reducible refine (H.out.run4b n (Nat.le_trans HK.out (by decide)) _ x R4b.out).mono ?_); rintro e W9 ⟨rfl, h_⟩; clear H; have H := Aside0.mk h_; clear h_) | (go_at_call 12; (with_reducible refine (H.out.sameAW n true SA.out).mono ?_); rintro e W10 ⟨rfl, h_⟩; clear H; have H := Aside0.mk h_; clear h_) | (go_at_call 12; (with_reducible refine (H.out.sameBW n true SA.out).mono ?_); rintro e W11 ⟨rfl, h_⟩; clear H; have H := Aside0.mk h_; clear h_))
          go_ret
          exact ⟨rfl, H.out.B⟩
        · have d2 : (i < N) = False := eq_false c3
          have d4 : decide ((i : Int) < (N : Int)) = false := decide_eq_false (by omega)
          clear c1 c2 c3
          go_wp2_with (first | ((with_reducible refine gate_dst (N := 72) rfl ?_); refine Kd.R_lit (Kd.int .u64) wr.heap.size 32 ?hg (N := 72) ?hd (xs := ([] : List Int)) (inner := []) (ok := fun _ => True) (okp := fun _ => True) ?hr ?hp (fun _ hk => hk) trivial (Below.refl _ _) (Nat.le_refl _) (by simp) ?_; (case hd => rfl); (case hg => rfl); (case hr => first | (go_simp; done) | (go_simp; rfl)); (case hp => exact (Reps.none _ _)); intro vq W1 ho2 hb2_ hg_ hnew_; clear hg_ hnew_; have oq := Aside0.mk ho2; have HB1 := Aside0.mk hb2_; have RA1 := Aside0.mk (Kd.R_below RA.out hb2_); have RC1 := Aside0.mk (show Kd.C (Kd.int .u64) W1 (some ⟨ga, 0, none⟩) N x from HXL.out ▸ (Kd.R_reads' RA1.out).2.2); clear ho2 hb2_) | ((with_reducible refine gate_builtin (b := .append) (xs := #[.tmp 72, .tmp 73]) rfl ?_); at_builtin; refine Kd.R_append_rows (Kd.int .u64) (w0 := wr) wr.heap.size rfl (.tmp 72) (.tmp 73) 22 32 (.int .u64 0) 8 rfl Tryd.underlying22 info32 rfl (by decide) (by omega) vq [] x _ _ _ (fun _ => True) (fun _ => False) rfl rfl oq.out RC1.out (fun _ _ h => h) (fun _ h => h.elim) (fun _ _ => trivial) HB1.out HB1.out.size ?aL ?_; (case aL => have := HXL.out; have := HP20.out; simp only [List.length_nil]; omega); intro vw W2 ho3 hb3_ hg_ hat_; rw [List.nil_append] at ho3; obtain ⟨gw, cw, ew, gbw, glw, clw, hGw_⟩ := Kd.R_form ho3 (by have := HXL.out; have := HP0.out; omega); rw [HXL.out] at ew; subst ew; have RW := Aside0.mk ho3; have HB2 := Aside0.mk hb3_; have RA2 := Aside0.mk (Kd.R_below RA.out hb3_); have RB2 := Aside0.mk (Kd.R_below RB.out hb3_); have GW := Aside0.mk (show wr.heap.size ≤ gw ∧ gw < W2.heap.size from ⟨gbw, Kd.R_lt ho3 gw rfl⟩); clear oq RA1 RC1 HB1 ho3 hb3_ hg_ hat_ gbw glw clw hGw_) | (go_at_call 28; (with_reducible refine (hk_New4.at n k t0 t1 u0 u1 s _ (Nat.le_trans HK.out (by decide)) HT4.out).mono ?_); rintro e W3 ⟨b4, rfl, hb_, hk_⟩; have K4 := Aside0.mk hk_; have HB3 := Aside0.mk hb_; clear hb_ hk_) | (go_at_call 22; (with_reducible refine (hk_New2.at n k p0 p1 s2 _ (Nat.le_trans HK.out (by decide)) HT2.out).mono ?_); rintro e W4 ⟨b2, rfl, hb_, hk_⟩; have H := Aside0.mk (hk_qa_start HB.out HB2.out HB3.out hb_ RA2.out RB2.out RW.out NE.out GW.out (Kd.R_lt RA.out ga rfl) (Kd.R_lt RB.out gb rfl) K4.out hk_); clear hb_ hk_ K4 HB3 RA2 RB2 RW HB2) | (go_at_call 29; (with_reducible refine (H.out.run4a n (Nat.le_trans HK.out (by decide)) _ r R4.out).mono ?_); rintro e W5 ⟨rfl, h_⟩; clear H; have H := Aside0.mk h_; clear h_) | (go_at_call 24; (with_reducible refine (H.out.run2b hG n HK.out _ r R2.out).mono ?_); rintro e W6 ⟨rfl, h_⟩; clear H; have H := Aside0.mk h_; clear h_) | (go_at_call 12; (with_reducible refine (H.out.sameAB n true SM.out).mono ?_); rintro e W7 ⟨rfl, h_⟩; clear H; have H := Aside0.mk h_; clear h_) | (go_at_call 24; (with_reducible refine (H.out.run2a hG n HK.out _ x R2b.out).mono ?_); rintro e W8 ⟨rfl, h_⟩; clear H; have H := Aside0.mk h_; clear h_) | (go_at_call 29; (with_reducible refine (H.out.run4b n (Nat.le_trans HK.out (by decide)) _ x R4b.out).mono ?_); rintro e W9 ⟨rfl, h_⟩; clear H; have H := Aside0.mk h_; clear h_) | (go_at_call 12; (with_reducible refine (H.out.sameAW n true SA.out).mono ?_); rintro e W10 ⟨rfl, h_⟩; clear H; have H := Aside0.mk h_; clear h_) | (go_at_call 12; (with_reducible refine (H.out.sameBW n true SA.out).mono ?_); rintro e W11 ⟨rfl, h_⟩; clear H; have H := Aside0.mk h_; clear h_))
          go_ret
          exact ⟨rfl, H.out.B⟩
theorem hk_QA.walk (n : Nat) (A0 : Option Addr) (c0 : Nat) (l : List Int) (kk dir : Int) (w : World) (hG : Aside0 (TzTab w)) (hr0 : Kd.C (Kd.int .u64) w A0 l.length l) (hc0 : l.length ≤ c0) (h : hk_QA n l kk dir) :
    Calls Tryd.prog 8 #[.slice A0 l.length c0, .int .u8 kk, .int .i64 dir] w fun e w' => e = .returned (.bool true) ∧ Below w.heap.size w w' := by
  obtain ⟨hA, h | ⟨h, h1⟩ | ⟨h, hku, dir2, hd, k, hk, hkk, t0, t1, u0, u1, s, p0, p1, s2, a, r, hT4, hT2, ha, hal, h4, h2, hS, h2b, h4b, hSa⟩⟩ := h
  · exact hk_QA.no n A0 c0 l kk dir w hG hA (.inl h)
  · exact hk_QA.no n A0 c0 l kk dir w hG hA (.inr ⟨h, h1⟩)
  · exact hk_QA.good n A0 c0 l kk dir dir2 w hG hr0 hc0 hA h hd k hk hkk hku t0 t1 u0 u1 s p0 p1 s2 a r hT4 hT2 ha hal h4 h2 hS h2b h4b hSa

/-- THE ONE PURE STATEMENT of abacistlaw10_QuartersAlike. -/
def abacistlaw10_QuartersAlike.Pure : Prop := ∀ (l0 : List Int) (a1 : Int) (a2 : Int), l0.length ≤ maxLen → l0.length * 8 ≤ 140737488351232 → (∀ x ∈ l0, (Lit.int .u64 x).wf = true) → (Lit.int .u8 a1).wf = true → (Lit.int .i64 a2).wf = true → ∃ k, hk_QA k l0 a1 a2
theorem abacistlaw10_QuartersAlike.walk (P : abacistlaw10_QuartersAlike.Pure) (a0 : Option Addr) (len0 cap0 : Nat) (z0 : List Int) (a1 : Int) (a2 : Int) (w : World) (hG : Aside0 (TzTab w)) (w0 : (a0 = none ∧ len0 = 0 ∧ cap0 = 0 ∧ z0 = []) ∨ ∃ x, a0 = some x ∧ len0 ≤ cap0 ∧ cap0 ≤ maxLen ∧ z0.length = cap0 ∧ (∀ i, i < z0.length → w.cell? (x.add i) = some (.int .u64 (z0.getD i 0))) ∧ ∀ n ∈ z0, (Lit.int .u64 n).wf = true) (y0 : len0 * 8 ≤ 140737488351232) (w1 : (Lit.int .u8 a1).wf = true) (w2 : (Lit.int .i64 a2).wf = true) :
    Calls Tryd.prog 8 #[.slice a0 len0 cap0, .int .u8 a1, .int .i64 a2] w fun e w' => e = .returned (.bool true) ∧ Below w.heap.size w w' := by
  obtain ⟨l0, rfl, hr0, hm0, hw0, hc0⟩ := ReadsInt.ofRowC w0
  obtain ⟨k, h⟩ := P l0 a1 a2 hm0 y0 hw0 w1 w2
  exact hk_QA.walk k _ _ l0 a1 a2 w hG (Kd.C_of_reads (d := (0 : Int)) (h1 := fun _ => rfl) hr0) hc0 h

end Go.Proofs.YtggmpdmlbjllhaaDoor.PQuartersAlike
