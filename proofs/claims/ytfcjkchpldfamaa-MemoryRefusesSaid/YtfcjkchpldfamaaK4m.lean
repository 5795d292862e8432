/-
  MemoryRefuses: for every input the law returns true.
-/
import Derived.Test.YtfcjkchpldfamaaK4q
import Derived.Test.YtfcjkchpldfamaaArg4
namespace Go.Proofs.Ytfcjkchpldfamaa
set_option linter.unusedSimpArgs false
set_option linter.unusedVariables false
open Go.ChangeShapes Go.WideShapes Go.ChangeAt Go.RowKit Go.Deep Go.Maps

set_option maxRecDepth 100000 in
theorem memoryRefuses_lifted (os : Os) (started : os.Started) (H : Type) (enc : TypeId × Value → H) :
    ReturnsInHanded {} Try.checked os 8 .any (Rows.memoryRefusesSpec.pre6 enc Try.prog Try.f8 Rows.memoryRefusesRow.domain false) (Rows.memoryRefusesSpec.post enc Try.prog Try.f8 false true false false) := by
  refine lifted_of (C := Try.checked) own started (by kernel_rfl) Try.func8
    (ChangeSpec.witness6 (enc := enc) (C := Try.checked) false ⟨#[], #[.agg #[.int .i64 0, .slice Option.none 0 0, .slice Option.none 0 0], .agg #[.int .i64 0, .int .i64 0, .int .i64 0, .int .i64 0, .int .u32 0, .int .u32 0, .int .i64 0, .int .u32 0, .int .u32 0, .int .i64 0], .int .i64 0], []⟩ 8 (by kernel_rfl) (by kernel_rfl) (by kernel_rfl) (by kernel_rfl))
    laidOut (by kernel_rfl) (tb := 4) (by kernel_rfl) Try.underlying4 rfl (fun ds h => match ds, h with | [_, _, _], _ => ⟨rfl, rfl, rfl⟩) ?_
  intro W base args ds p hval0 hA0
  have hval : ∀ (j : Nat) t v, Try.f8.params[j]? = some t → args[j]? = some v → Value.okWide Try.prog W .any base t v := hval0
  have hA : DataW.TrodAll enc Try.prog W 0 (fun _ => true) true Try.f8.params.toList args.toList ds p := hA0
  rw [Try.params8] at hA hval
  obtain ⟨v0, v1, v2, d0, d1, d2, p0, p1, p2, rfl, rfl, rfl, a0, a1, a2⟩ := trodAll_three hA
  obtain ⟨q0, o0, r0⟩ := argStruct Try.underlying25 pl_case (hval 0 _ v0 rfl rfl) a0
  obtain ⟨k, ws, xs, e0, hw, hx⟩ := okd_case o0
  obtain ⟨q1, o1, r1⟩ := argStruct Try.underlying33 pl_do (hval 1 _ v1 rfl rfl) a1
  obtain ⟨x, e1, _⟩ := okd_do o1
  obtain ⟨t, rfl, rfl, rfl, _⟩ := open_int Try.underlying3 (hval 2 _ v2 rfl rfl) a2
  rw [e0] at r0
  rw [e1] at r1
  exact retv_of_ok (vs := [v0, v1, .int .i64 t]) (ok_MemoryRefuses k 2 ws 2 xs x t) (.cons r0 (.cons r1 (.cons (rep_int _ _) .nil)))

theorem memoryRefuses_holds : Rows.MemoryRefusesSaid :=
  OpenClaim.holds_of_wide 8 Try.f8 rfl rfl rfl rfl rfl rfl rfl ⟨rfl, rfl, rfl, rfl, rfl⟩ rfl rfl rfl rfl rfl (by kernel_rfl) Try.func8 (by kernel_rfl)
    (of_decide_eq_true (by kernel_rfl)) (by unfold Func.isWrapper; first | (rw [if_pos (by decide +kernel)]; kernel_rfl) | (rw [if_neg (by decide +kernel)]; exact ⟨rfl, rfl⟩))
    (fun os started H enc _ => memoryRefuses_lifted os started H enc)
end Go.Proofs.Ytfcjkchpldfamaa
