/- GoldReduces: the row of the law: for any wide number the call of abacistlaw02.GoldReduces returns true and leaves its argument as it was. No condition beyond the kinds of the argument's two fields. -/
import Derived.Test.YtalfhpghmoikoaaRows
import Derived.Test.YtalfhpghmoikoaaPGoldReducesx3
import Derived.Test.YtalfhpghmoikoaaPureGoldReduces
import Derived.WalkKit
import Derived.ProofKit
import Derived.OpenShut
import Derived.ShutString
import Derived.ChangeOld
import Derived.Below
import Derived.SizedLaws
import Derived.Lib.SmallJoins
namespace Go.Proofs.Ytalfhpghmoikoaa.goldReduces
open Go.ChangeShapes Go.WideShapes Go.ChangeAt Go.RowKit Go.Joins
set_option linter.unusedVariables false
theorem own : ownKnob Try.prog.godebug = none := by kernel_rfl
theorem walk (a b : Int) (w : World) (ha : (Lit.int .u64 a).wf = true) (hb : (Lit.int .u64 b).wf = true) : Calls Try.prog 3 #[.agg #[.int .u64 a, .int .u64 b]] w fun e w' => e = .returned (.bool true) ∧ Below w.heap.size w w' := by
  obtain ⟨k, h⟩ := Pure.GoldReduces a b ha hb
  refine (PGoldReduces.abacistlaw02_GoldReduces.calls k a b true ⟨rfl⟩ w h).mono ?_
  rintro e w' ⟨rfl, hd⟩
  exact ⟨rfl, hd⟩
set_option maxRecDepth 100000 in
theorem lifted (os : Os) (started : os.Started) (H : Type) (enc : TypeId × Value → H) :
    ReturnsInHanded {} Try.checked os 3 .any (Rows.goldReducesSpec.pre6 enc Try.prog Try.f3 Rows.goldReducesRow.domain false) (Rows.goldReducesSpec.post enc Try.prog Try.f3 false true false false) := by
  refine returnsInHanded_of_change_sized (C := Try.checked) own started (by kernel_rfl) Try.func3
    (ChangeSpec.witness6 (enc := enc) (C := Try.checked) false ⟨#[], #[.agg #[.int .u64 0, .int .u64 0]], []⟩ 8 (by kernel_rfl) (by kernel_rfl) (by kernel_rfl) (by kernel_rfl)) ?_
  intro W base args ds gs before hval0 hW hcnd hsz0 _
  have hval : ∀ (j : Nat) t v, Try.f3.params[j]? = some t → args[j]? = some v → Value.okWide Try.prog W .any base t v := hval0
  have hW' := hW
  obtain ⟨p, q, hA0, hV, rfl, hfz, hnd⟩ := hW
  have hA : DataW.TrodAll enc Try.prog W 0 (fun _ => true) true Try.f3.params.toList args.toList ds p := hA0
  rw [Try.params3] at hA hval
  obtain ⟨v0, vs0, d0, ds0, p0, q0, hargs, rfl, rfl, h0, r0⟩ := trodAll_cons hA
  obtain ⟨rfl, rfl, rfl⟩ := trodAll_nil r0
  obtain rfl : args = #[v0] := by cases args; simp_all
  obtain ⟨rfl, rfl⟩ := trodVars_none hV
  obtain ⟨c0, c1, y0, y1, n, rfl, rfl, rfl, t0, t1⟩ := open_agg2 Try.underlying24 (by kernel_rfl) (by kernel_rfl) (hval 0 24 v0 rfl rfl) h0
  obtain ⟨a, ea, rfl, wa⟩ := DataW.trod_int Try.underlying22 t0
  obtain ⟨b, eb, rfl, wb⟩ := DataW.trod_int Try.underlying22 t1
  obtain rfl : c0 = .int .u64 a := by simpa using ea
  obtain rfl : c1 = .int .u64 b := by simpa using eb
  clear hA0 hval0 hsz0
  refine (walk a b W wa wb).mono fun e W' ⟨he, bel⟩ => ?_
  subst he
  exact ⟨_, rfl, _, _, _, [], _, [], hW', trodAll_mk1 (shut_bool Try.underlying4 _), (trodAll_cons_mk (shut_agg2 Try.underlying24 (by kernel_rfl) (by kernel_rfl) ⟨_, trod_int_mk 0 Try.underlying22 wa⟩ ⟨_, trod_int_mk 0 Try.underlying22 wb⟩) trodAll_mk0), rfl, bel.frame _, fun h => by cases h⟩
theorem over : Rows.goldReducesRow.holds Try.pinned (OpenSpec.ofChange Rows.goldReducesSpec) :=
  OpenClaim.holds_of_wide 3 Try.f3 rfl rfl rfl rfl rfl rfl rfl ⟨rfl, rfl, rfl, rfl, rfl⟩ rfl rfl rfl rfl rfl (by kernel_rfl) Try.func3 (by kernel_rfl)
    (of_decide_eq_true (by kernel_rfl)) (by unfold Func.isWrapper; first | (rw [if_pos (by decide +kernel)]; kernel_rfl) | (rw [if_neg (by decide +kernel)]; exact ⟨rfl, rfl⟩))
    (fun os started H enc _ => lifted os started H enc)
theorem proved : Rows.GoldReducesSaid := over
#print axioms proved
end Go.Proofs.Ytalfhpghmoikoaa.goldReduces
namespace Go.Proofs.Ytalfhpghmoikoaa
/-- The row, under a short name, for the claim. -/
theorem goldReduces_holds : Rows.GoldReducesSaid := goldReduces.proved
end Go.Proofs.Ytalfhpghmoikoaa
