/-
  MachineDoes: for every input the law returns true.
-/
import Derived.Test.YtkoibcblmgmdmaaK6p
import Derived.Test.YtkoibcblmgmdmaaArg6
namespace Go.Proofs.Ytkoibcblmgmdmaa
set_option linter.unusedSimpArgs false
set_option linter.unusedVariables false
open Go.ChangeShapes Go.WideShapes Go.ChangeAt Go.RowKit Go.Deep Go.Maps

set_option maxRecDepth 100000 in
theorem machineDoes_lifted (os : Os) (started : os.Started) (H : Type) (enc : TypeId × Value → H) :
    ReturnsInHanded {} Try.checked os 4 .any (Rows.machineDoesSpec.pre6 enc Try.prog Try.f4 Rows.machineDoesRow.domain false) (Rows.machineDoesSpec.post enc Try.prog Try.f4 false true false false) := by
  refine lifted_of (C := Try.checked) own started (by kernel_rfl) Try.func4
    (ChangeSpec.witness6 (enc := enc) (C := Try.checked) false ⟨#[], #[.int .u8 0, .slice Option.none 0 0, .slice Option.none 0 0], []⟩ 8 (by kernel_rfl) (by kernel_rfl) (by kernel_rfl) (by kernel_rfl))
    laidOut (by kernel_rfl) (tb := 4) (by kernel_rfl) Try.underlying4 rfl (fun ds h => match ds, h with | [_, _, _], _ => ⟨rfl, rfl, rfl⟩) ?_
  intro W base args ds p hval0 hA0
  have hval : ∀ (j : Nat) t v, Try.f4.params[j]? = some t → args[j]? = some v → Value.okWide Try.prog W .any base t v := hval0
  have hA : DataW.TrodAll enc Try.prog W 0 (fun _ => true) true Try.f4.params.toList args.toList ds p := hA0
  rw [Try.params4] at hA hval
  obtain ⟨v0, v1, v2, d0, d1, d2, p0, p1, p2, rfl, rfl, rfl, a0, a1, a2⟩ := trodAll_three hA
  obtain ⟨q0, o0, r0⟩ := argCell (okWide_one Try.underlying5 (.inr (.inl ⟨_, rfl⟩)) (hval 0 _ v0 rfl rfl)) pl_u8' a0
  obtain ⟨n0, rfl, hn0⟩ := okd_int o0
  obtain ⟨q1, o1, r1⟩ := argCell (okWide_one Try.underlying22 (.inr (.inr ⟨_, rfl⟩)) (hval 1 _ v1 rfl rfl)) pl_words a1
  obtain ⟨x1, e1, hx1⟩ := okd_words o1
  rw [e1] at r1
  obtain ⟨q2, o2, r2⟩ := argCell (okWide_one Try.underlying23 (.inr (.inr ⟨_, rfl⟩)) (hval 2 _ v2 rfl rfl)) pl_deeds a2
  obtain ⟨x2, e2, hx2⟩ := okd_deeds o2
  rw [e2] at r2
  exact retv_of_ok (vs := [v0, v1, v2]) (ok_slen 11 2 (x2.map eDeed) (by simp) fun hl => ok_MachineDoes n0 ⟨hn0.1, hn0.2⟩ 2 x1 2 x2 (by simpa [maxLen] using hl)) (match r0, r1, r2 with | .cons b0 .nil, .cons b1 .nil, .cons b2 .nil => .cons b0 (.cons b1 (.cons b2 .nil)))

theorem machineDoes_holds : Rows.MachineDoesSaid :=
  OpenClaim.holds_of_wide 4 Try.f4 rfl rfl rfl rfl rfl rfl rfl ⟨rfl, rfl, rfl, rfl, rfl⟩ rfl rfl rfl rfl rfl (by kernel_rfl) Try.func4 (by kernel_rfl)
    (of_decide_eq_true (by kernel_rfl)) (by unfold Func.isWrapper; first | (rw [if_pos (by decide +kernel)]; kernel_rfl) | (rw [if_neg (by decide +kernel)]; exact ⟨rfl, rfl⟩))
    (fun os started H enc _ => machineDoes_lifted os started H enc)
end Go.Proofs.Ytkoibcblmgmdmaa
