/-
  MemoryPasses: for every input the law returns true.
-/
import Derived.Test.YtfcjkchpldfamaaK4o
import Derived.Test.YtfcjkchpldfamaaArg4
namespace Go.Proofs.Ytfcjkchpldfamaa
set_option linter.unusedSimpArgs false
set_option linter.unusedVariables false
open Go.ChangeShapes Go.WideShapes Go.ChangeAt Go.RowKit Go.Deep Go.Maps

abbrev plPass : Pl := .cons plWord (.cons (.int .i64) (.cons (.int .i64) (.cons (.int .i64) (.cons (.int .i64) (.cons .bool .nil)))))
theorem pl_pass : planOf Try.prog 8 75 = some plPass := by kernel_rfl
theorem okd_pass {d : Dt} (h : OkD plPass d) : ∃ x, shP plPass d = ePass x := by
  obtain ⟨_, _, rfl, h1, h⟩ := okd_cons h
  obtain ⟨_, _, rfl, h2, h⟩ := okd_cons h
  obtain ⟨_, _, rfl, h3, h⟩ := okd_cons h
  obtain ⟨_, _, rfl, h4, h⟩ := okd_cons h
  obtain ⟨_, _, rfl, h5, h⟩ := okd_cons h
  obtain ⟨_, _, rfl, h6, h⟩ := okd_cons h
  obtain rfl := okd_nil h
  obtain ⟨w, e1, _⟩ := okd_word h1
  obtain ⟨t, rfl, _⟩ := okd_int h2
  obtain ⟨a, rfl, _⟩ := okd_int h3
  obtain ⟨b, rfl, _⟩ := okd_int h4
  obtain ⟨c, rfl, _⟩ := okd_int h5
  obtain ⟨l, rfl⟩ := okd_bool h6
  refine ⟨⟨w, t, a, b, c, l⟩, ?_⟩
  show shP plWord _ ++ ([sI t] ++ ([sI a] ++ ([sI b] ++ ([sI c] ++ ([sB l] ++ []))))) = _
  rw [e1]; rfl

set_option maxRecDepth 100000 in
theorem memoryPasses_lifted (os : Os) (started : os.Started) (H : Type) (enc : TypeId × Value → H) :
    ReturnsInHanded {} Try.checked os 5 .any (Rows.memoryPassesSpec.pre6 enc Try.prog Try.f5 Rows.memoryPassesRow.domain false) (Rows.memoryPassesSpec.post enc Try.prog Try.f5 false true false false) := by
  refine lifted_of (C := Try.checked) own started (by kernel_rfl) Try.func5
    (ChangeSpec.witness6 (enc := enc) (C := Try.checked) false ⟨#[], #[.agg #[.int .i64 0, .slice Option.none 0 0, .slice Option.none 0 0], .agg #[.int .i64 0, .int .u32 0, .int .u32 0, .int .i64 0, .int .i64 0, .int .i64 0, .int .i64 0, .bool false]], []⟩ 8 (by kernel_rfl) (by kernel_rfl) (by kernel_rfl) (by kernel_rfl))
    laidOut (by kernel_rfl) (tb := 4) (by kernel_rfl) Try.underlying4 rfl (fun ds h => match ds, h with | [_, _], _ => ⟨rfl, rfl, rfl⟩) ?_
  intro W base args ds p hval0 hA0
  have hval : ∀ (j : Nat) t v, Try.f5.params[j]? = some t → args[j]? = some v → Value.okWide Try.prog W .any base t v := hval0
  have hA : DataW.TrodAll enc Try.prog W 0 (fun _ => true) true Try.f5.params.toList args.toList ds p := hA0
  rw [Try.params5] at hA hval
  obtain ⟨v0, v1, d0, d1, p0, p1, rfl, rfl, rfl, a0, a1⟩ := trodAll_two hA
  obtain ⟨q0, o0, r0⟩ := argStruct Try.underlying25 pl_case (hval 0 _ v0 rfl rfl) a0
  obtain ⟨k, ws, xs, e0, hw, hx⟩ := okd_case o0
  obtain ⟨q1, o1, r1⟩ := argStruct Try.underlying75 pl_pass (hval 1 _ v1 rfl rfl) a1
  obtain ⟨x, e1⟩ := okd_pass o1
  rw [e0] at r0
  rw [e1] at r1
  exact retv_of_ok (vs := [v0, v1]) (ok_MemoryPasses k 2 ws 2 xs x) (.cons r0 (.cons r1 .nil))

theorem memoryPasses_holds : Rows.MemoryPassesSaid :=
  OpenClaim.holds_of_wide 5 Try.f5 rfl rfl rfl rfl rfl rfl rfl ⟨rfl, rfl, rfl, rfl, rfl⟩ rfl rfl rfl rfl rfl (by kernel_rfl) Try.func5 (by kernel_rfl)
    (of_decide_eq_true (by kernel_rfl)) (by unfold Func.isWrapper; first | (rw [if_pos (by decide +kernel)]; kernel_rfl) | (rw [if_neg (by decide +kernel)]; exact ⟨rfl, rfl⟩))
    (fun os started H enc _ => memoryPasses_lifted os started H enc)
end Go.Proofs.Ytfcjkchpldfamaa
