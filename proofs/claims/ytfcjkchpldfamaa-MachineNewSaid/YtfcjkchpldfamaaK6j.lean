/-
  MachineNew: for every input the law returns true.
-/
import Derived.Test.YtfcjkchpldfamaaK6g
import Derived.Test.YtfcjkchpldfamaaArg6
namespace Go.Proofs.Ytfcjkchpldfamaa
set_option linter.unusedSimpArgs false
set_option linter.unusedVariables false
open Go.ChangeShapes Go.WideShapes Go.ChangeAt Go.RowKit Go.Deep Go.Maps

set_option maxRecDepth 100000 in
theorem machineNew_lifted (os : Os) (started : os.Started) (H : Type) (enc : TypeId × Value → H) :
    ReturnsInHanded {} Try.checked os 11 .any (Rows.machineNewSpec.pre6 enc Try.prog Try.f11 Rows.machineNewRow.domain false) (Rows.machineNewSpec.post enc Try.prog Try.f11 false true false false) := by
  refine lifted_of (C := Try.checked) own started (by kernel_rfl) Try.func11
    (ChangeSpec.witness6 (enc := enc) (C := Try.checked) false ⟨#[], #[.int .i64 0, .slice Option.none 0 0], []⟩ 8 (by kernel_rfl) (by kernel_rfl) (by kernel_rfl) (by kernel_rfl))
    laidOut (by kernel_rfl) (tb := 4) (by kernel_rfl) Try.underlying4 rfl (fun ds h => match ds, h with | [_, _], _ => ⟨rfl, rfl, rfl⟩) ?_
  intro W base args ds p hval0 hA0
  have hval : ∀ (j : Nat) t v, Try.f11.params[j]? = some t → args[j]? = some v → Value.okWide Try.prog W .any base t v := hval0
  have hA : DataW.TrodAll enc Try.prog W 0 (fun _ => true) true Try.f11.params.toList args.toList ds p := hA0
  rw [Try.params11] at hA hval
  obtain ⟨v0, v1, d0, d1, p0, p1, rfl, rfl, rfl, a0, a1⟩ := trodAll_two hA
  obtain ⟨k, rfl, rfl, rfl, _⟩ := open_int Try.underlying3 (hval 0 _ v0 rfl rfl) a0
  obtain ⟨q1, o1, r1⟩ := argCell (okWide_one Try.underlying22 (.inr (.inr ⟨_, rfl⟩)) (hval 1 _ v1 rfl rfl)) pl_words a1
  obtain ⟨ws, e1, hw⟩ := okd_words o1
  rw [e1] at r1
  exact retv_of_ok (vs := [.int .i64 k, v1]) (ok_slen 3 2 (ws.map eWord) (by simp) fun hl => ok_MachineNew k 2 ws (by simpa [maxLen] using hl)) (match r1 with | .cons b .nil => .cons (rep_int _ _) (.cons b .nil))

theorem machineNew_holds : Rows.MachineNewSaid :=
  OpenClaim.holds_of_wide 11 Try.f11 rfl rfl rfl rfl rfl rfl rfl ⟨rfl, rfl, rfl, rfl, rfl⟩ rfl rfl rfl rfl rfl (by kernel_rfl) Try.func11 (by kernel_rfl)
    (of_decide_eq_true (by kernel_rfl)) (by unfold Func.isWrapper; first | (rw [if_pos (by decide +kernel)]; kernel_rfl) | (rw [if_neg (by decide +kernel)]; exact ⟨rfl, rfl⟩))
    (fun os started H enc _ => machineNew_lifted os started H enc)
end Go.Proofs.Ytfcjkchpldfamaa
