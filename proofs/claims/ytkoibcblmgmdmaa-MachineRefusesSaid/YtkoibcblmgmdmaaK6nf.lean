/-
  MachineRefuses: for every input the law returns true.
-/
import Derived.Test.YtkoibcblmgmdmaaK6n
import Derived.Test.YtkoibcblmgmdmaaArg6
import Derived.Test.YtkoibcblmgmdmaaClz
namespace Go.Proofs.Ytkoibcblmgmdmaa
set_option linter.unusedSimpArgs false
set_option linter.unusedVariables false
open Go.ChangeShapes Go.WideShapes Go.ChangeAt Go.RowKit Go.Deep Go.Maps

set_option maxRecDepth 100000 in
theorem machineRefuses_lifted (os : Os) (started : os.Started) (H : Type) (enc : TypeId × Value → H) :
    ReturnsInHanded {} Try.checked os 3 .any (Rows.machineRefusesSpec.pre6 enc Try.prog Try.f3 Rows.machineRefusesRow.domain false) (Rows.machineRefusesSpec.post enc Try.prog Try.f3 false true false false) := by
  refine lifted_of_sized (C := Try.checked) own started (by kernel_rfl) Try.func3
    (ChangeSpec.witness6 (enc := enc) (C := Try.checked) false ⟨#[], #[.slice Option.none 0 0, .slice Option.none 0 0, .agg #[.bool false, .int .i64 0, .int .i64 0, .int .i64 0, .int .i64 0, .int .u32 0, .int .u32 0, .int .i64 0, .int .u32 0, .int .u32 0, .int .i64 0]], []⟩ 8 (by kernel_rfl) (by kernel_rfl) (by kernel_rfl) (by kernel_rfl))
    laidOut (by kernel_rfl) (tb := 4) (by kernel_rfl) Try.underlying4 rfl (fun ds h => match ds, h with | [_, _, _], _ => ⟨rfl, rfl, rfl⟩) ?_
  intro W base args ds p hval0 hA0 hsz0
  have hval : ∀ (j : Nat) t v, Try.f3.params[j]? = some t → args[j]? = some v → Value.okWide Try.prog W .any base t v := hval0
  have hA : DataW.TrodAll enc Try.prog W 0 (fun _ => true) true Try.f3.params.toList args.toList ds p := hA0
  have hsz : (DataW.weightsEach Try.prog (Try.f3.params.toList ++ Rows.machineRefusesSpec.plain.varTypes Try.prog) (ds ++ [])).all (· ≤ reachBytes) = true := hsz0
  rw [Try.params3] at hA hval hsz
  obtain ⟨v0, v1, v2, d0, d1, d2, p0, p1, p2, rfl, rfl, rfl, a0, a1, a2⟩ := trodAll_three hA
  obtain ⟨q0, o0, r0⟩ := argCell (okWide_one Try.underlying22 (.inr (.inr ⟨_, rfl⟩)) (hval 0 _ v0 rfl rfl)) pl_words a0
  obtain ⟨ws, e0, hw⟩ := okd_words o0
  obtain ⟨q1, o1, r1⟩ := argCell (okWide_one Try.underlying23 (.inr (.inr ⟨_, rfl⟩)) (hval 1 _ v1 rfl rfl)) pl_deeds a1
  obtain ⟨dl, e1, hds⟩ := okd_deeds o1
  obtain ⟨q2, o2, r2⟩ := argStruct Try.underlying31 pl_deed (hval 2 _ v2 rfl rfl) a2
  obtain ⟨d, e2, hd⟩ := okd_deed o2
  rw [e0] at r0
  rw [e1] at r1
  rw [e2] at r2
  have hlen : (dl.length + 1) * 72 ≤ 140737488355328 := by
    have hb : ∃ a c, v1 = .slice a dl.length c := by
      cases r1 with
      | cons h1 h2 =>
        cases h1 with
        | sl hE hn _ _ _ _ _ =>
          rw [List.length_map] at hn
          subst hn
          exact ⟨_, _, rfl⟩
    obtain ⟨a, c, rfl⟩ := hb
    rcases trod_slen Try.underlying23 a1 with h0 | ⟨elems, rest, rfl, he⟩
    · rw [h0]; decide
    · have h9 := sized_slice hsz (j := 1) (t := 23) (e := 31) (elems := elems) (spare := rest) rfl rfl Try.underlying23
      rw [show Try.prog.bytesOf 31 = 72 by kernel_rfl] at h9
      unfold reachBytes at h9
      omega
  exact retv_of_ok (vs := [v0, v1, v2]) (ok_MachineRefuses 2 ws 2 dl d hlen) (match r0, r1, r2 with | .cons a .nil, .cons b .nil, c => .cons a (.cons b (.cons c .nil)))

theorem machineRefuses_holds : Rows.MachineRefusesSaid :=
  OpenClaim.holds_of_wide 3 Try.f3 rfl rfl rfl rfl rfl rfl rfl ⟨rfl, rfl, rfl, rfl, rfl⟩ rfl rfl rfl rfl rfl (by kernel_rfl) Try.func3 (by kernel_rfl)
    (of_decide_eq_true (by kernel_rfl)) (by unfold Func.isWrapper; first | (rw [if_pos (by decide +kernel)]; kernel_rfl) | (rw [if_neg (by decide +kernel)]; exact ⟨rfl, rfl⟩))
    (fun os started H enc _ => machineRefuses_lifted os started H enc)
end Go.Proofs.Ytkoibcblmgmdmaa
