/-
  MachineKeeps: for every input the law returns true.
-/
import Derived.Test.YtfcjkchpldfamaaK6l
import Derived.Test.YtfcjkchpldfamaaArg6
namespace Go.Proofs.Ytfcjkchpldfamaa
set_option linter.unusedSimpArgs false
set_option linter.unusedVariables false
open Go.ChangeShapes Go.WideShapes Go.ChangeAt Go.RowKit Go.Deep Go.Maps

set_option maxRecDepth 100000 in
theorem machineKeeps_lifted (os : Os) (started : os.Started) (H : Type) (enc : TypeId × Value → H) :
    ReturnsInHanded {} Try.checked os 14 .any (Rows.machineKeepsSpec.pre6 enc Try.prog Try.f14 Rows.machineKeepsRow.domain false) (Rows.machineKeepsSpec.post enc Try.prog Try.f14 false true false false) := by
  refine lifted_of (C := Try.checked) own started (by kernel_rfl) Try.func14
    (ChangeSpec.witness6 (enc := enc) (C := Try.checked) false ⟨#[], #[.slice Option.none 0 0, .slice Option.none 0 0, .int .u8 0], []⟩ 8 (by kernel_rfl) (by kernel_rfl) (by kernel_rfl) (by kernel_rfl))
    laidOut (by kernel_rfl) (tb := 4) (by kernel_rfl) Try.underlying4 rfl (fun ds h => match ds, h with | [_, _, _], _ => ⟨rfl, rfl, rfl⟩) ?_
  intro W base args ds p hval0 hA0
  have hval : ∀ (j : Nat) t v, Try.f14.params[j]? = some t → args[j]? = some v → Value.okWide Try.prog W .any base t v := hval0
  have hA : DataW.TrodAll enc Try.prog W 0 (fun _ => true) true Try.f14.params.toList args.toList ds p := hA0
  rw [Try.params14] at hA hval
  obtain ⟨v0, v1, v2, d0, d1, d2, p0, p1, p2, rfl, rfl, rfl, a0, a1, a2⟩ := trodAll_three hA
  obtain ⟨q0, o0, r0⟩ := argCell (okWide_one Try.underlying22 (.inr (.inr ⟨_, rfl⟩)) (hval 0 _ v0 rfl rfl)) pl_words a0
  obtain ⟨ws, e0, hw⟩ := okd_words o0
  obtain ⟨q1, o1, r1⟩ := argCell (okWide_one Try.underlying92 (.inr (.inr ⟨_, rfl⟩)) (hval 1 _ v1 rfl rfl)) pl_deeds a1
  obtain ⟨ds, e1, hds⟩ := okd_deeds o1
  obtain ⟨q2, o2, r2⟩ := argCell (okWide_one Try.underlying5 (.inr (.inl ⟨_, rfl⟩)) (hval 2 _ v2 rfl rfl)) pl_u8' a2
  obtain ⟨n, rfl, hn⟩ := okd_int o2
  rw [e0] at r0
  rw [e1] at r1
  exact retv_of_ok (vs := [v0, v1, v2]) (ok_slen 11 2 (ds.map eDeed) (by simp) fun hl => ok_MachineKeeps 2 ws 2 ds n (by simpa [maxLen] using hl) hn) (match r0, r1, r2 with | .cons a .nil, .cons b .nil, .cons c .nil => .cons a (.cons b (.cons c .nil)))

theorem machineKeeps_holds : Rows.MachineKeepsSaid :=
  OpenClaim.holds_of_wide 14 Try.f14 rfl rfl rfl rfl rfl rfl rfl ⟨rfl, rfl, rfl, rfl, rfl⟩ rfl rfl rfl rfl rfl (by kernel_rfl) Try.func14 (by kernel_rfl)
    (of_decide_eq_true (by kernel_rfl)) (by unfold Func.isWrapper; first | (rw [if_pos (by decide +kernel)]; kernel_rfl) | (rw [if_neg (by decide +kernel)]; exact ⟨rfl, rfl⟩))
    (fun os started H enc _ => machineKeeps_lifted os started H enc)
end Go.Proofs.Ytfcjkchpldfamaa
