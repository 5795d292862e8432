/-
  AtomClaims: for every input the law returns true.
-/
import Derived.Test.YtcbdgnjdpfgobaaK10j
import Derived.Test.YtcbdgnjdpfgobaaArg10
namespace Go.Proofs.Ytcbdgnjdpfgobaa
set_option linter.unusedSimpArgs false
set_option linter.unusedVariables false
open Go.ChangeShapes Go.WideShapes Go.ChangeAt Go.RowKit Go.Deep Go.Maps

set_option maxRecDepth 100000 in
theorem atomClaims_lifted (os : Os) (started : os.Started) (H : Type) (enc : TypeId × Value → H) :
    ReturnsInHanded {} Try.checked os 13 .any (Rows.atomClaimsSpec.pre6 enc Try.prog Try.f13 Rows.atomClaimsRow.domain false) (Rows.atomClaimsSpec.post enc Try.prog Try.f13 false true false false) := by
  refine lifted_of (C := Try.checked) own started (by kernel_rfl) Try.func13
    (ChangeSpec.witness6 (enc := enc) (C := Try.checked) false ⟨#[], #[.agg #[.int .i64 0, .int .i64 0, .int .i64 0], .slice Option.none 0 0, .int .i64 0], []⟩ 8 (by kernel_rfl) (by kernel_rfl) (by kernel_rfl) (by kernel_rfl))
    laidOut (by kernel_rfl) (tb := 4) (by kernel_rfl) Try.underlying4 rfl (fun ds h => match ds, h with | [_, _, _], _ => ⟨rfl, rfl, rfl⟩) ?_
  intro W base args ds p hval0 hA0
  have hval : ∀ (j : Nat) t v, Try.f13.params[j]? = some t → args[j]? = some v → Value.okWide Try.prog W .any base t v := hval0
  have hA : DataW.TrodAll enc Try.prog W 0 (fun _ => true) true Try.f13.params.toList args.toList ds p := hA0
  rw [Try.params13] at hA hval
  obtain ⟨v0, v1, v2, d0, d1, d2, p0, p1, p2, rfl, rfl, rfl, a0, a1, a2⟩ := trodAll_three hA
  obtain ⟨q0, o0, r0⟩ := argArray Try.underlying119 pl_i3 (hval 0 _ v0 rfl rfl) a0
  obtain ⟨x0, e0, hx0⟩ := okd_i3 o0
  rw [e0] at r0
  obtain ⟨q1, o1, r1⟩ := argCell (okWide_one Try.underlying75 (.inr (.inr ⟨_, rfl⟩)) (hval 1 _ v1 rfl rfl)) pl_picks a1
  obtain ⟨x1, e1, hx1⟩ := okd_picks o1
  rw [e1] at r1
  obtain ⟨q2, o2, r2⟩ := argCell (okWide_one Try.underlying2 (.inr (.inl ⟨_, rfl⟩)) (hval 2 _ v2 rfl rfl)) pl_int64 a2
  obtain ⟨n2, rfl, hn2⟩ := okd_int o2
  exact retv_of_ok (vs := [v0, v1, v2]) (ok_AtomClaims x0.1 x0.2.1 x0.2.2 x1 n2) (match r0, r1, r2 with | b0, .cons b1 .nil, .cons b2 .nil => .cons b0 (.cons b1 (.cons b2 .nil)))

theorem atomClaims_holds : Rows.AtomClaimsSaid :=
  OpenClaim.holds_of_wide 13 Try.f13 rfl rfl rfl rfl rfl rfl rfl ⟨rfl, rfl, rfl, rfl, rfl⟩ rfl rfl rfl rfl rfl (by kernel_rfl) Try.func13 (by kernel_rfl)
    (of_decide_eq_true (by kernel_rfl)) (by unfold Func.isWrapper; first | (rw [if_pos (by decide +kernel)]; kernel_rfl) | (rw [if_neg (by decide +kernel)]; exact ⟨rfl, rfl⟩))
    (fun os started H enc _ => atomClaims_lifted os started H enc)
end Go.Proofs.Ytcbdgnjdpfgobaa
