/-
  TaskGives: for every input the law returns true.
-/
import Derived.Test.YtcbdgnjdpfgobaaK8i
import Derived.Test.YtcbdgnjdpfgobaaArg8
namespace Go.Proofs.Ytcbdgnjdpfgobaa
set_option linter.unusedSimpArgs false
set_option linter.unusedVariables false
open Go.ChangeShapes Go.WideShapes Go.ChangeAt Go.RowKit Go.Deep Go.Maps

set_option maxRecDepth 100000 in
theorem taskGives_lifted (os : Os) (started : os.Started) (H : Type) (enc : TypeId × Value → H) :
    ReturnsInHanded {} Try.checked os 4 .any (Rows.taskGivesSpec.pre6 enc Try.prog Try.f4 Rows.taskGivesRow.domain false) (Rows.taskGivesSpec.post enc Try.prog Try.f4 false true false false) := by
  refine lifted_of (C := Try.checked) own started (by kernel_rfl) Try.func4
    (ChangeSpec.witness6 (enc := enc) (C := Try.checked) false ⟨#[], #[.slice Option.none 0 0, .slice Option.none 0 0], []⟩ 8 (by kernel_rfl) (by kernel_rfl) (by kernel_rfl) (by kernel_rfl))
    laidOut (by kernel_rfl) (tb := 4) (by kernel_rfl) Try.underlying4 rfl (fun ds h => match ds, h with | [_, _], _ => ⟨rfl, rfl, rfl⟩) ?_
  intro W base args ds p hval0 hA0
  have hval : ∀ (j : Nat) t v, Try.f4.params[j]? = some t → args[j]? = some v → Value.okWide Try.prog W .any base t v := hval0
  have hA : DataW.TrodAll enc Try.prog W 0 (fun _ => true) true Try.f4.params.toList args.toList ds p := hA0
  rw [Try.params4] at hA hval
  obtain ⟨v0, v1, d0, d1, p0, p1, rfl, rfl, rfl, a0, a1⟩ := trodAll_two hA
  obtain ⟨q0, o0, r0⟩ := argCell (okWide_one Try.underlying41 (.inr (.inr ⟨_, rfl⟩)) (hval 0 _ v0 rfl rfl)) pl_acts1 a0
  obtain ⟨x0, e0, hx0⟩ := okd_acts1 o0
  rw [e0] at r0
  obtain ⟨q1, o1, r1⟩ := argCell (okWide_one Try.underlying42 (.inr (.inr ⟨_, rfl⟩)) (hval 1 _ v1 rfl rfl)) pl_gots a1
  obtain ⟨x1, e1, hx1⟩ := okd_gots o1
  rw [e1] at r1
  exact retv_of_ok (vs := [v0, v1]) (ok_TaskGives x0 x1) (match r0, r1 with | .cons b0 .nil, .cons b1 .nil => .cons b0 (.cons b1 .nil))

theorem taskGives_holds : Rows.TaskGivesSaid :=
  OpenClaim.holds_of_wide 4 Try.f4 rfl rfl rfl rfl rfl rfl rfl ⟨rfl, rfl, rfl, rfl, rfl⟩ rfl rfl rfl rfl rfl (by kernel_rfl) Try.func4 (by kernel_rfl)
    (of_decide_eq_true (by kernel_rfl)) (by unfold Func.isWrapper; first | (rw [if_pos (by decide +kernel)]; kernel_rfl) | (rw [if_neg (by decide +kernel)]; exact ⟨rfl, rfl⟩))
    (fun os started H enc _ => taskGives_lifted os started H enc)
end Go.Proofs.Ytcbdgnjdpfgobaa
