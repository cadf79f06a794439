-- Written for this claim by wip/gen/mk.sh, this session's own driver over the kit's print
import Derived.Test.YtjooodbjbidjiaaDoorRows
import Derived.Test.YtjooodbjbidjiaaDoorCards
import Derived.Test.YtjooodbjbidjiaaDoorTie
import Derived.LaidMore
import Derived.Lib.LaidTab
import Derived.MakeChecks
import Derived.SevenTiedAt
import Derived.Test.YtjooodbjbidjiaaDoorPConvMulsx8
import Derived.Test.YtjooodbjbidjiaaDoorPureConvMuls
import Derived.WalkKit
import Derived.Deep.Matrix
import Derived.ProofKit
import Derived.OpenShut
import Derived.ShutString
import Derived.ChangeOld
import Derived.Below
import Derived.SizedLaws
import Derived.Test.YtjooodbjbidjiaaDoorWSized
namespace Go.Proofs.YtjooodbjbidjiaaDoor.convMuls
open Go.ChangeShapes Go.WideShapes Go.ChangeAt Go.RowKit Go.Proofs.YtjooodbjbidjiaaDoorW.PrintWords
open Go.ChangeMaps (open_string shut_string)
set_option linter.unusedVariables false
theorem gT : Tryd.prog.globalNamed "math/bits.deBruijn64tab" = some 0 := by kernel_rfl
theorem tT : (Tryd.prog.globals[0]?).map (·.type) = some 83 := by kernel_rfl
theorem cT : Tryd.prog.cellsOf 83 = 64 := by kernel_rfl
theorem cE : Tryd.prog.cellsOf 5 = 1 := by kernel_rfl
theorem door_met (os : Os) (args : Array Value) : laidMetH Tryd.prog [("math/bits.deBruijn64tab", Rows.laid_math_bits_deBruijn64tab)] ((World.doorLaid Tryd.prog 400 os).forCall (fun _ _ => 0) ⟨#[], args, []⟩).memory :=
  laidMetH_of_parts3 (fuel := 8) (laidMet_of_run' 8 (by kernel_rfl) (by kernel_rfl)) (by kernel_rfl) (by kernel_rfl)
theorem own : ownKnob Tryd.prog.godebug = none := by kernel_rfl
theorem laidOut : laidOutB Tryd.prog = true := by kernel_rfl
def IsRow (k : IntKind) (w : World) (a : Option Addr) (len cap : Nat) (zs : List Int) : Prop :=
  (a = none ∧ len = 0 ∧ cap = 0 ∧ zs = []) ∨
  ∃ x, a = some x ∧ len ≤ cap ∧ cap ≤ maxLen ∧ zs.length = cap ∧ (∀ i, i < zs.length → w.cell? (x.add i) = some (.int k (zs.getD i 0))) ∧ ∀ n ∈ zs, (Lit.int k n).wf = true
set_option maxRecDepth 100000 in
theorem lifted (os : Os) (started : os.Started) (H : Type) (enc : TypeId × Value → H) :
    ReturnsInHanded {} Tryd.checked os 5 .any (fun w args => (Rows.convMulsSpec.pre enc Tryd.prog Tryd.f5 [] false w args ∧ laidMetH Tryd.prog [("math/bits.deBruijn64tab", Rows.laid_math_bits_deBruijn64tab)] w) ∧ sizedMet enc Tryd.prog Tryd.f5 (OpenSpec.ofChange Rows.convMulsSpec) false w args) (Rows.convMulsSpec.post enc Tryd.prog Tryd.f5 false true false false) := by
  refine returnsInHanded_of_change_and (C := Tryd.checked) (X := fun w _ => laidMetH Tryd.prog [("math/bits.deBruijn64tab", Rows.laid_math_bits_deBruijn64tab)] w) (fun _ _ _ hh h => h.of_heap hh) own started (by kernel_rfl) Tryd.func5
    (ChangeSpec.witness_shaped (enc := enc) (C := Tryd.checked) (os := os) (X := fun w _ => laidMetH Tryd.prog [("math/bits.deBruijn64tab", Rows.laid_math_bits_deBruijn64tab)] w) false (World.doorLaid Tryd.prog 400 os) #[.slice none 0 0, .slice none 0 0, .int .i64 0] 8 rfl (World.shaped_of_RefB (by kernel_rfl) (by kernel_rfl)) (by kernel_rfl) (by kernel_rfl) (by kernel_rfl) (door_met os _)) ?_
  intro W base args ds gs before hval0 hW hcnd hsz0 hL0 _
  have hL : laidMetH Tryd.prog [("math/bits.deBruijn64tab", Rows.laid_math_bits_deBruijn64tab)] W := hL0
  rw [MakeChecks.laidMetH_plain _ _ _ (by kernel_rfl)] at hL
  have hT : Lib.TabIs Tryd.prog W "math/bits.deBruijn64tab" .u8 PConvMuls.tzTab := Lib.tabIs_of_head gT tT Tryd.underlying83 Tryd.underlying5 cE cT hL
  have hG : Go.Proofs.YtjooodbjbidjiaaDoorW.PrintWords.Aside0 (PConvMuls.TzTab W) := ⟨fun i hi => hT.cell gT i hi⟩
  have hsz : (DataW.weightsEach Tryd.prog (Tryd.f5.params.toList ++ Rows.convMulsSpec.plain.varTypes Tryd.prog) (ds ++ gs)).all (· ≤ reachBytes) = true := hsz0
  have hval : ∀ (j : Nat) t v, Tryd.f5.params[j]? = some t → args[j]? = some v → Value.okWide Tryd.prog W .any base t v := hval0
  have hW' := hW
  obtain ⟨p, q, hA0, hV, rfl, hfz, hnd⟩ := hW
  have hA : DataW.TrodAll enc Tryd.prog W 0 (fun _ => true) true Tryd.f5.params.toList args.toList ds p := hA0
  rw [Tryd.params5] at hA hval hsz
  obtain ⟨v0, vs0, d0, ds0, p0, q0, hargs, rfl, rfl, h0, r0⟩ := trodAll_cons hA
  obtain ⟨v1, vs1, d1, ds1, p1, q1, rfl, rfl, rfl, h1, r1⟩ := trodAll_cons r0
  obtain ⟨v2, vs2, d2, ds2, p2, q2, rfl, rfl, rfl, h2, r2⟩ := trodAll_cons r1
  obtain ⟨rfl, rfl, rfl⟩ := trodAll_nil r2
  obtain rfl : args = #[v0, v1, v2] := by cases args; simp_all
  obtain ⟨rfl, rfl⟩ := trodVars_none hV
  obtain ⟨a0, len0, cap0, rfl⟩ := okWide_slice Tryd.underlying35 (hval 0 35 v0 rfl rfl)
  have k0 := h0
  have lt0 : ∀ x ∈ p0, x.block < W.heap.size := by obtain ⟨m, hm⟩ := k0; exact DataW.trod_lt m _ _ _ hm
  obtain ⟨L0, n0, hc0, hwl, hC0⟩ : ∃ L0 : List (List Int), len0 = L0.length ∧ L0.length ≤ cap0 ∧ (∀ q ∈ L0, ∀ x ∈ q, (Lit.int .u64 x).wf = true) ∧ Kd.C (Kd.slice 28 (Kd.int .u64)) W a0 L0.length L0 := by
    obtain ⟨fuel, hf⟩ := h0
    rcases Go.Deep.open_int_rows Tryd.underlying35 Tryd.underlying22 Tryd.underlying28 (by kernel_rfl) (by kernel_rfl) hf with ⟨hcs, _⟩ | ⟨x, l, c, A, L, C, Z, hcs, _, hl, hm, _, hrow⟩
    · simp [Value.cells] at hcs
      obtain ⟨rfl, rfl, rfl⟩ := hcs
      exact ⟨[], rfl, Nat.le_refl _, (fun q hq => by cases hq), ⟨rfl, by simp, fun h => absurd h (by simp)⟩⟩
    · simp [Value.cells] at hcs
      obtain ⟨rfl, rfl, rfl⟩ := hcs
      have each : ∀ r, r < len0 → ∃ y : List Int, W.cell? (x.add r) = some (.slice (A r) y.length (C r)) ∧ y.length ≤ C r ∧ (∀ n ∈ y, (Lit.int .u64 n).wf = true) ∧ ReadsInt W .u64 (A r) y.length y := by
        intro r hr
        obtain ⟨e1, e2, e3, e4, e5, e6, e7⟩ := hrow r (by omega)
        have hi : IsRow .u64 W (A r) (L r) (C r) (Z r) := by
          cases ha : A r with
          | none =>
            have hc := e6 ha
            exact .inl ⟨rfl, by omega, hc, List.length_eq_zero_iff.1 (by omega)⟩
          | some a' => exact .inr ⟨a', rfl, e2, e3, e4, fun i hi => (e7 a' ha).2 i (by omega), e5⟩
        obtain ⟨y, hy, hr2, _, hw, hc⟩ := ReadsInt.ofRowC hi
        exact ⟨y, by rw [e1, hy], hc, hw, hr2⟩
      obtain ⟨y, hy⟩ := Go.Deep.choose_lt each
      refine ⟨(List.range len0).map y, by simp, by simpa using hl, ?_, ?_⟩
      · intro q hq z hz
        obtain ⟨r, hr, rfl⟩ := List.mem_map.1 hq
        exact (hy r (List.mem_range.1 hr)).2.2.1 z hz
      · refine ⟨rfl, by simp; unfold maxLen at hm; omega, fun _ => ⟨x, rfl, fun j q hq => ?_⟩⟩
        rw [List.getElem?_map] at hq
        obtain ⟨r, hr, rfl⟩ := Option.map_eq_some_iff.1 hq
        obtain ⟨hjl, hj⟩ := List.getElem?_eq_some_iff.1 hr
        rw [List.getElem_range] at hj
        subst hj
        have hjn : j < len0 := by simpa using hjl
        obtain ⟨f1, f2, f3, f4⟩ := hy j hjn
        refine ⟨[.slice (A j) (y j).length (C j)], rfl, ⟨A j, C j, rfl, f2, Kd.C_of_reads (d := (0 : Int)) (h1 := fun _ => rfl) f4⟩, fun i u hu => ?_⟩
        cases i with
        | zero =>
          have hu2 : (Value.slice (A j) (y j).length (C j)) = u := Option.some.inj hu
          rw [← hu2, Nat.add_zero]
          show W.cell? (x.add (j * 1)) = _
          rw [Nat.mul_one]
          exact f1
        | succ i => cases hu
  subst n0
  obtain ⟨a1, len1, cap1, rfl⟩ := okWide_slice Tryd.underlying22 (hval 1 22 v1 rfl rfl)
  have k1 := h1
  have lt1 : ∀ x ∈ p1, x.block < W.heap.size := by obtain ⟨m, hm⟩ := k1; exact DataW.trod_lt m _ _ _ hm
  obtain ⟨z1, w1⟩ : ∃ zs, IsRow .u64 W a1 len1 cap1 zs := by
    obtain ⟨fuel, hf⟩ := h1
    rcases open_ints Tryd.underlying22 Tryd.underlying28 (by kernel_rfl) hf with ⟨hcs, _⟩ | ⟨x, l, c, zs, hcs, _, hl, hm, hz, _, hcell, hwz⟩
    · simp [Value.cells] at hcs
      obtain ⟨rfl, rfl, rfl⟩ := hcs
      exact ⟨[], .inl ⟨rfl, rfl, rfl, rfl⟩⟩
    · simp [Value.cells] at hcs
      obtain ⟨rfl, rfl, rfl⟩ := hcs
      exact ⟨zs, .inr ⟨_, rfl, hl, hm, by simpa using hz, hcell, hwz⟩⟩
  have y1 : len1 * 8 ≤ 140737488351232 := Go.Proofs.YtjooodbjbidjiaaDoorW.PrintWords.sized_ints hsz (j := 1) (t := 22) rfl rfl Tryd.underlying22 Tryd.underlying28 (by kernel_rfl) (by kernel_rfl) h1
  obtain ⟨a2, rfl, rfl, rfl, w2⟩ := open_int Tryd.underlying3 (hval 2 3 v2 rfl rfl) h2
  clear hA0 hval0 hsz0 hsz
  obtain ⟨l1, rfl, hr1, hm1, hw1, hc1⟩ := ReadsInt.ofRowC w1
  obtain ⟨kk, hk⟩ := Pure.ConvMuls L0 l1 a2 hwl hw1
  refine (PConvMuls.abacistlaw13_ConvMuls.calls kk a0 cap0 L0 a1 cap1 l1 a2 true ⟨rfl⟩ W hC0 hc0 (Kd.C_of_reads (d := (0 : Int)) (h1 := fun _ => rfl) hr1) hc1 hG hk).mono fun e W' ⟨he, bel⟩ => ?_
  subst he
  exact ⟨_, rfl, _, _, _, [], _, [], hW', trodAll_mk1 (shut_bool Tryd.underlying4 _), (trodAll_cons_mk (Below.trod laidOut (by kernel_rfl) (of_decide_eq_true (by kernel_rfl)) k0 bel lt0) (trodAll_cons_mk (Below.trod laidOut (by kernel_rfl) (of_decide_eq_true (by kernel_rfl)) k1 bel lt1) (trodAll_cons_mk (shut_int Tryd.underlying3 w2) trodAll_mk0))), rfl, bel.frame _, fun h => by cases h⟩
theorem over : Rows.convMulsRow.holds Tryd.pinned (OpenSpec.ofChange Rows.convMulsSpec) :=
  OpenClaim.holds_of_wide 5 Tryd.f5 rfl rfl rfl rfl rfl rfl rfl ⟨rfl, rfl, rfl, rfl, rfl⟩ rfl rfl rfl rfl rfl (by kernel_rfl) Tryd.func5 (by kernel_rfl)
    (of_decide_eq_true (by kernel_rfl)) (by unfold Func.isWrapper; first | (rw [if_pos (by decide +kernel)]; kernel_rfl) | (rw [if_neg (by decide +kernel)]; exact ⟨rfl, rfl⟩))
    (fun os started H enc _ => lifted os started H enc)
theorem proved : Rows.ConvMulsCardSaid :=
  Claim7.holds_tied_plain_at .later [] [.data] true (true, "eed6617f44fb58b0817f24d4da10a4655f557b96ea01da431122e3d1c8998c23") false
    over (fun _ h => by cases h) (by kernel_rfl) (fun _ h => by cases h) convMuls_row_tie rfl ⟨rfl, rfl⟩ (by kernel_rfl) rfl
    (fun f fn hf hfn => by
      obtain rfl : f = 5 := Option.some.inj ((show Tryd.prog.funcNamed "abacist/abacistlaw13.ConvMuls" = some 5 by kernel_rfl).symm.trans hf) |>.symm
      obtain rfl : fn = Tryd.f5 := (Option.some.inj (Tryd.func5.symm.trans hfn)).symm
      exact ⟨by kernel_rfl, fun j t ht => by
        rw [Tryd.params5] at ht
        have hm : t ∈ [35, 22, 3] := by simpa using Array.mem_of_getElem? ht
        have hall : ([35, 22, 3].all fun u => !Tryd.prog.wantsStandIn u) = true := by kernel_rfl
        exact (show Tryd.prog.wantsStandIn t = false by simpa using List.all_eq_true.1 hall t hm)⟩)
    (by kernel_rfl)
#print axioms proved
end Go.Proofs.YtjooodbjbidjiaaDoor.convMuls
namespace Go.Proofs.YtjooodbjbidjiaaDoor
/-- The row, under a short name, for the claim. -/
theorem convMuls_holds : Rows.ConvMulsCardSaid := convMuls.proved
end Go.Proofs.YtjooodbjbidjiaaDoor
