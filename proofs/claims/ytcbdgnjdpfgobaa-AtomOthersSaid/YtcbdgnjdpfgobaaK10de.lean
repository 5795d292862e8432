/-
  AtomOthers: for every input the law returns true.
-/
import Derived.Test.YtcbdgnjdpfgobaaK10d
import Derived.Test.YtcbdgnjdpfgobaaArg10
namespace Go.Proofs.Ytcbdgnjdpfgobaa
set_option linter.unusedSimpArgs false
set_option linter.unusedVariables false
open Go.ChangeShapes Go.WideShapes Go.ChangeAt Go.RowKit Go.Deep Go.Maps

set_option maxRecDepth 100000 in
theorem atomOthers_lifted (os : Os) (started : os.Started) (H : Type) (enc : TypeId × Value → H) :
    ReturnsInHanded {} Try.checked os 10 .any (Rows.atomOthersSpec.pre6 enc Try.prog Try.f10 Rows.atomOthersRow.domain false) (Rows.atomOthersSpec.post enc Try.prog Try.f10 false true false false) := by
  refine lifted_of (C := Try.checked) own started (by kernel_rfl) Try.func10
    (ChangeSpec.witness6 (enc := enc) (C := Try.checked) false ⟨#[], #[.agg #[.int .i64 0, .int .i64 0, .int .i64 0], .agg #[.int .i64 0, .int .u32 0, .int .u32 0], .agg #[.int .i64 0, .int .u32 0, .int .u32 0]], []⟩ 8 (by kernel_rfl) (by kernel_rfl) (by kernel_rfl) (by kernel_rfl))
    laidOut (by kernel_rfl) (tb := 4) (by kernel_rfl) Try.underlying4 rfl (fun ds h => match ds, h with | [_, _, _], _ => ⟨rfl, rfl, rfl⟩) ?_
  intro W base args ds p hval0 hA0
  have hval : ∀ (j : Nat) t v, Try.f10.params[j]? = some t → args[j]? = some v → Value.okWide Try.prog W .any base t v := hval0
  have hA : DataW.TrodAll enc Try.prog W 0 (fun _ => true) true Try.f10.params.toList args.toList ds p := hA0
  rw [Try.params10] at hA hval
  obtain ⟨v0, v1, v2, d0, d1, d2, p0, p1, p2, rfl, rfl, rfl, a0, a1, a2⟩ := trodAll_three hA
  obtain ⟨q0, o0, r0⟩ := argStruct Try.underlying99 pl_op (hval 0 _ v0 rfl rfl) a0
  obtain ⟨x0, e0, hx0⟩ := okd_op o0
  rw [e0] at r0
  obtain ⟨q1, o1, r1⟩ := argStruct Try.underlying39 pl_word (hval 1 _ v1 rfl rfl) a1
  obtain ⟨x1, e1, hx1⟩ := okd_word o1
  rw [e1] at r1
  obtain ⟨q2, o2, r2⟩ := argStruct Try.underlying39 pl_word (hval 2 _ v2 rfl rfl) a2
  obtain ⟨x2, e2, hx2⟩ := okd_word o2
  rw [e2] at r2
  exact retv_of_ok (vs := [v0, v1, v2]) (ok_AtomOthers x0 x1 x2) (match r0, r1, r2 with | b0, b1, b2 => .cons b0 (.cons b1 (.cons b2 .nil)))

theorem atomOthers_holds : Rows.AtomOthersSaid :=
  OpenClaim.holds_of_wide 10 Try.f10 rfl rfl rfl rfl rfl rfl rfl ⟨rfl, rfl, rfl, rfl, rfl⟩ rfl rfl rfl rfl rfl (by kernel_rfl) Try.func10 (by kernel_rfl)
    (of_decide_eq_true (by kernel_rfl)) (by unfold Func.isWrapper; first | (rw [if_pos (by decide +kernel)]; kernel_rfl) | (rw [if_neg (by decide +kernel)]; exact ⟨rfl, rfl⟩))
    (fun os started H enc _ => atomOthers_lifted os started H enc)
end Go.Proofs.Ytcbdgnjdpfgobaa
