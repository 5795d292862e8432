/-
  TopSnapshot: for every input the law returns true.
-/
import Derived.Test.YtijblpkdfmkcfaaKTu
import Derived.Test.YtijblpkdfmkcfaaArgT
namespace Go.Proofs.Ytijblpkdfmkcfaa
set_option linter.unusedSimpArgs false
set_option linter.unusedVariables false
open Go.ChangeShapes Go.WideShapes Go.ChangeAt Go.RowKit Go.Deep Go.Maps

set_option maxRecDepth 100000 in
theorem topSnapshot_lifted (os : Os) (started : os.Started) (H : Type) (enc : TypeId × Value → H) :
    ReturnsInHanded {} Try.checked os 3 .any (Rows.topSnapshotSpec.pre6 enc Try.prog Try.f3 Rows.topSnapshotRow.domain false) (Rows.topSnapshotSpec.post enc Try.prog Try.f3 false true false false) := by
  refine lifted_of (C := Try.checked) own started (by kernel_rfl) Try.func3
    (ChangeSpec.witness6 (enc := enc) (C := Try.checked) false ⟨#[], #[.slice Option.none 0 0], []⟩ 8 (by kernel_rfl) (by kernel_rfl) (by kernel_rfl) (by kernel_rfl))
    laidOut (by kernel_rfl) (tb := 4) (by kernel_rfl) Try.underlying4 rfl (fun ds h => match ds, h with | [_], _ => ⟨rfl, rfl, rfl⟩) ?_
  intro W base args ds p hval0 hA0
  have hval : ∀ (j : Nat) t v, Try.f3.params[j]? = some t → args[j]? = some v → Value.okWide Try.prog W .any base t v := hval0
  have hA : DataW.TrodAll enc Try.prog W 0 (fun _ => true) true Try.f3.params.toList args.toList ds p := hA0
  rw [Try.params3] at hA hval
  obtain ⟨v0, d0, rfl, rfl, a0⟩ := trodAll_one hA
  obtain ⟨q0, o0, r0⟩ := argCell (okWide_one Try.underlying22 (.inr (.inr ⟨_, rfl⟩)) (hval 0 _ v0 rfl rfl)) pl_snacts a0
  obtain ⟨x0, e0, hx0⟩ := okd_snacts o0
  rw [e0] at r0
  exact retv_of_ok (vs := [v0]) (ok_TopSnapshot x0 hx0) (match r0 with | .cons b0 .nil => .cons b0 .nil)

theorem topSnapshot_holds : Rows.TopSnapshotSaid :=
  OpenClaim.holds_of_wide 3 Try.f3 rfl rfl rfl rfl rfl rfl rfl ⟨rfl, rfl, rfl, rfl, rfl⟩ rfl rfl rfl rfl rfl (by kernel_rfl) Try.func3 (by kernel_rfl)
    (of_decide_eq_true (by kernel_rfl)) (by unfold Func.isWrapper; first | (rw [if_pos (by decide +kernel)]; kernel_rfl) | (rw [if_neg (by decide +kernel)]; exact ⟨rfl, rfl⟩))
    (fun os started H enc _ => topSnapshot_lifted os started H enc)
end Go.Proofs.Ytijblpkdfmkcfaa
