/-
  MemoryPlays: for every input the law returns true.
-/
import Derived.Test.YtfcjkchpldfamaaK4C
import Derived.Test.YtfcjkchpldfamaaArg4
namespace Go.Proofs.Ytfcjkchpldfamaa
set_option linter.unusedSimpArgs false
set_option linter.unusedVariables false
open Go.ChangeShapes Go.WideShapes Go.ChangeAt Go.RowKit Go.Deep Go.Maps

set_option maxRecDepth 100000 in
theorem memoryPlays_lifted (os : Os) (started : os.Started) (H : Type) (enc : TypeId × Value → H) :
    ReturnsInHanded {} Try.checked os 4 .any (Rows.memoryPlaysSpec.pre6 enc Try.prog Try.f4 Rows.memoryPlaysRow.domain false) (Rows.memoryPlaysSpec.post enc Try.prog Try.f4 false true false false) := by
  refine lifted_of (C := Try.checked) own started (by kernel_rfl) Try.func4
    (ChangeSpec.witness6 (enc := enc) (C := Try.checked) false ⟨#[], #[.agg #[.int .i64 0, .slice Option.none 0 0, .slice Option.none 0 0]], []⟩ 8 (by kernel_rfl) (by kernel_rfl) (by kernel_rfl) (by kernel_rfl))
    laidOut (by kernel_rfl) (tb := 4) (by kernel_rfl) Try.underlying4 rfl (fun ds h => match ds, h with | [_], _ => ⟨rfl, rfl, rfl⟩) ?_
  intro W base args ds p hval0 hA0
  have hval : ∀ (j : Nat) t v, Try.f4.params[j]? = some t → args[j]? = some v → Value.okWide Try.prog W .any base t v := hval0
  have hA : DataW.TrodAll enc Try.prog W 0 (fun _ => true) true Try.f4.params.toList args.toList ds p := hA0
  rw [Try.params4] at hA hval
  obtain ⟨v0, d0, rfl, rfl, a0⟩ := trodAll_one hA
  obtain ⟨q0, o0, r0⟩ := argStruct Try.underlying25 pl_case (hval 0 _ v0 rfl rfl) a0
  obtain ⟨k, ws, xs, e0, hw, hx⟩ := okd_case o0
  rw [e0] at r0
  exact retv_of_ok (vs := [v0]) (ok_MemoryPlays k 2 ws 2 xs) (.cons r0 .nil)

theorem memoryPlays_holds : Rows.MemoryPlaysSaid :=
  OpenClaim.holds_of_wide 4 Try.f4 rfl rfl rfl rfl rfl rfl rfl ⟨rfl, rfl, rfl, rfl, rfl⟩ rfl rfl rfl rfl rfl (by kernel_rfl) Try.func4 (by kernel_rfl)
    (of_decide_eq_true (by kernel_rfl)) (by unfold Func.isWrapper; first | (rw [if_pos (by decide +kernel)]; kernel_rfl) | (rw [if_neg (by decide +kernel)]; exact ⟨rfl, rfl⟩))
    (fun os started H enc _ => memoryPlays_lifted os started H enc)
end Go.Proofs.Ytfcjkchpldfamaa
