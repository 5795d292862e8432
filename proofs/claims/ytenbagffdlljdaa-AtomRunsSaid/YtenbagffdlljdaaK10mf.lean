/-
  AtomRuns: for every input the law returns true.
-/
import Derived.Test.YtenbagffdlljdaaK10m
import Derived.Test.YtenbagffdlljdaaMK8
namespace Go.Proofs.Ytenbagffdlljdaa
set_option linter.unusedSimpArgs false
set_option linter.unusedVariables false
open Go.ChangeShapes Go.WideShapes Go.ChangeAt Go.RowKit Go.Deep Go.Maps
set_option maxRecDepth 100000 in
theorem atomRuns_lifted (os : Os) (started : os.Started) (H : Type) (enc : TypeId × Value → H) :
    ReturnsInHanded {} Try.checked os 5 .any (Rows.atomRunsSpec.pre6 enc Try.prog Try.f5 Rows.atomRunsRow.domain false) (Rows.atomRunsSpec.post enc Try.prog Try.f5 false true false false) := by
  refine lifted_of (C := Try.checked) own started (by kernel_rfl) Try.func5
    (ChangeSpec.witness6 (enc := enc) (C := Try.checked) false ⟨#[], #[.agg #[.int .i64 0, .int .u32 0, .int .u32 0, .int .i64 0, .int .u32 0, .int .u32 0, .slice Option.none 0 0, .slice Option.none 0 0]], []⟩ 8 (by kernel_rfl) (by kernel_rfl) (by kernel_rfl) (by kernel_rfl))
    laidOut (by kernel_rfl) (tb := 4) (by kernel_rfl) Try.underlying4 rfl (fun ds h => match ds, h with | [_], _ => ⟨rfl, rfl, rfl⟩) ?_
  intro W base args ds p hval0 hA0
  have hval : ∀ (j : Nat) t v, Try.f5.params[j]? = some t → args[j]? = some v → Value.okWide Try.prog W .any base t v := hval0
  have hA : DataW.TrodAll enc Try.prog W 0 (fun _ => true) true Try.f5.params.toList args.toList ds p := hA0
  rw [Try.params5] at hA hval
  obtain ⟨v0, d0, rfl, rfl, a0⟩ := trodAll_one hA
  obtain ⟨q0, o0, r0⟩ := argStruct Try.underlying80 pl_run (hval 0 _ v0 rfl rfl) a0
  obtain ⟨x0, e0, hx0⟩ := okd_run o0
  rw [e0] at r0
  exact retv_of_ok (vs := [v0]) (ok_AtomRuns x0 hx0) (match r0 with | b0 => .cons b0 .nil)
theorem atomRuns_holds : Rows.AtomRunsSaid :=
  OpenClaim.holds_of_wide 5 Try.f5 rfl rfl rfl rfl rfl rfl rfl ⟨rfl, rfl, rfl, rfl, rfl⟩ rfl rfl rfl rfl rfl (by kernel_rfl) Try.func5 (by kernel_rfl)
    (of_decide_eq_true (by kernel_rfl)) (by unfold Func.isWrapper; first | (rw [if_pos (by decide +kernel)]; kernel_rfl) | (rw [if_neg (by decide +kernel)]; exact ⟨rfl, rfl⟩))
    (fun os started H enc _ => atomRuns_lifted os started H enc)
end Go.Proofs.Ytenbagffdlljdaa
