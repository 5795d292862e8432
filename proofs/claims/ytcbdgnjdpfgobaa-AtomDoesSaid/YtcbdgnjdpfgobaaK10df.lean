/-
  AtomDoes: for every input the law returns true.
-/
import Derived.Test.YtcbdgnjdpfgobaaK10d
import Derived.Test.YtcbdgnjdpfgobaaArg10
namespace Go.Proofs.Ytcbdgnjdpfgobaa
set_option linter.unusedSimpArgs false
set_option linter.unusedVariables false
open Go.ChangeShapes Go.WideShapes Go.ChangeAt Go.RowKit Go.Deep Go.Maps

set_option maxRecDepth 100000 in
theorem atomDoes_lifted (os : Os) (started : os.Started) (H : Type) (enc : TypeId × Value → H) :
    ReturnsInHanded {} Try.checked os 9 .any (Rows.atomDoesSpec.pre6 enc Try.prog Try.f9 Rows.atomDoesRow.domain false) (Rows.atomDoesSpec.post enc Try.prog Try.f9 false true false false) := by
  refine lifted_of (C := Try.checked) own started (by kernel_rfl) Try.func9
    (ChangeSpec.witness6 (enc := enc) (C := Try.checked) false ⟨#[], #[.agg #[.int .i64 0, .int .i64 0, .int .i64 0], .int .i64 0], []⟩ 8 (by kernel_rfl) (by kernel_rfl) (by kernel_rfl) (by kernel_rfl))
    laidOut (by kernel_rfl) (tb := 4) (by kernel_rfl) Try.underlying4 rfl (fun ds h => match ds, h with | [_, _], _ => ⟨rfl, rfl, rfl⟩) ?_
  intro W base args ds p hval0 hA0
  have hval : ∀ (j : Nat) t v, Try.f9.params[j]? = some t → args[j]? = some v → Value.okWide Try.prog W .any base t v := hval0
  have hA : DataW.TrodAll enc Try.prog W 0 (fun _ => true) true Try.f9.params.toList args.toList ds p := hA0
  rw [Try.params9] at hA hval
  obtain ⟨v0, v1, d0, d1, p0, p1, rfl, rfl, rfl, a0, a1⟩ := trodAll_two hA
  obtain ⟨q0, o0, r0⟩ := argStruct Try.underlying99 pl_op (hval 0 _ v0 rfl rfl) a0
  obtain ⟨x0, e0, hx0⟩ := okd_op o0
  rw [e0] at r0
  obtain ⟨q1, o1, r1⟩ := argCell (okWide_one Try.underlying2 (.inr (.inl ⟨_, rfl⟩)) (hval 1 _ v1 rfl rfl)) pl_int64 a1
  obtain ⟨n1, rfl, hn1⟩ := okd_int o1
  exact retv_of_ok (vs := [v0, v1]) (ok_AtomDoes x0 n1) (match r0, r1 with | b0, .cons b1 .nil => .cons b0 (.cons b1 .nil))

theorem atomDoes_holds : Rows.AtomDoesSaid :=
  OpenClaim.holds_of_wide 9 Try.f9 rfl rfl rfl rfl rfl rfl rfl ⟨rfl, rfl, rfl, rfl, rfl⟩ rfl rfl rfl rfl rfl (by kernel_rfl) Try.func9 (by kernel_rfl)
    (of_decide_eq_true (by kernel_rfl)) (by unfold Func.isWrapper; first | (rw [if_pos (by decide +kernel)]; kernel_rfl) | (rw [if_neg (by decide +kernel)]; exact ⟨rfl, rfl⟩))
    (fun os started H enc _ => atomDoes_lifted os started H enc)
end Go.Proofs.Ytcbdgnjdpfgobaa
