/-
  TaskStops: for every input the law returns true.
-/
import Derived.Test.YtcbdgnjdpfgobaaK8l
import Derived.Test.YtcbdgnjdpfgobaaArg8
namespace Go.Proofs.Ytcbdgnjdpfgobaa
set_option linter.unusedSimpArgs false
set_option linter.unusedVariables false
open Go.ChangeShapes Go.WideShapes Go.ChangeAt Go.RowKit Go.Deep Go.Maps

set_option maxRecDepth 100000 in
theorem taskStops_lifted (os : Os) (started : os.Started) (H : Type) (enc : TypeId × Value → H) :
    ReturnsInHanded {} Try.checked os 7 .any (Rows.taskStopsSpec.pre6 enc Try.prog Try.f7 Rows.taskStopsRow.domain false) (Rows.taskStopsSpec.post enc Try.prog Try.f7 false true false false) := by
  refine lifted_of (C := Try.checked) own started (by kernel_rfl) Try.func7
    (ChangeSpec.witness6 (enc := enc) (C := Try.checked) false ⟨#[], #[.slice Option.none 0 0, .slice Option.none 0 0, .int .u8 0], []⟩ 8 (by kernel_rfl) (by kernel_rfl) (by kernel_rfl) (by kernel_rfl))
    laidOut (by kernel_rfl) (tb := 4) (by kernel_rfl) Try.underlying4 rfl (fun ds h => match ds, h with | [_, _, _], _ => ⟨rfl, rfl, rfl⟩) ?_
  intro W base args ds p hval0 hA0
  have hval : ∀ (j : Nat) t v, Try.f7.params[j]? = some t → args[j]? = some v → Value.okWide Try.prog W .any base t v := hval0
  have hA : DataW.TrodAll enc Try.prog W 0 (fun _ => true) true Try.f7.params.toList args.toList ds p := hA0
  rw [Try.params7] at hA hval
  obtain ⟨v0, v1, v2, d0, d1, d2, p0, p1, p2, rfl, rfl, rfl, a0, a1, a2⟩ := trodAll_three hA
  obtain ⟨q0, o0, r0⟩ := argCell (okWide_one Try.underlying74 (.inr (.inr ⟨_, rfl⟩)) (hval 0 _ v0 rfl rfl)) pl_acts a0
  obtain ⟨x0, e0, hx0⟩ := okd_acts o0
  rw [e0] at r0
  obtain ⟨q1, o1, r1⟩ := argCell (okWide_one Try.underlying75 (.inr (.inr ⟨_, rfl⟩)) (hval 1 _ v1 rfl rfl)) pl_picks a1
  obtain ⟨x1, e1, hx1⟩ := okd_picks o1
  rw [e1] at r1
  obtain ⟨q2, o2, r2⟩ := argCell (okWide_one Try.underlying5 (.inr (.inl ⟨_, rfl⟩)) (hval 2 _ v2 rfl rfl)) pl_u8 a2
  obtain ⟨n2, rfl, hn2⟩ := okd_int o2
  exact retv_of_ok (vs := [v0, v1, v2]) (ok_slen 1 2 (x0.map eA1) (by simp) fun hl => ok_TaskStops x0 x1 n2 (by simpa [maxLen] using hl) hn2) (match r0, r1, r2 with | .cons b0 .nil, .cons b1 .nil, .cons b2 .nil => .cons b0 (.cons b1 (.cons b2 .nil)))

theorem taskStops_holds : Rows.TaskStopsSaid :=
  OpenClaim.holds_of_wide 7 Try.f7 rfl rfl rfl rfl rfl rfl rfl ⟨rfl, rfl, rfl, rfl, rfl⟩ rfl rfl rfl rfl rfl (by kernel_rfl) Try.func7 (by kernel_rfl)
    (of_decide_eq_true (by kernel_rfl)) (by unfold Func.isWrapper; first | (rw [if_pos (by decide +kernel)]; kernel_rfl) | (rw [if_neg (by decide +kernel)]; exact ⟨rfl, rfl⟩))
    (fun os started H enc _ => taskStops_lifted os started H enc)
end Go.Proofs.Ytcbdgnjdpfgobaa
