/-
  MemoryCounts: for every input the law returns true.
-/
import Derived.Test.YtfcjkchpldfamaaK4s
import Derived.Test.YtfcjkchpldfamaaArg4
namespace Go.Proofs.Ytfcjkchpldfamaa
set_option linter.unusedSimpArgs false
set_option linter.unusedVariables false
open Go.ChangeShapes Go.WideShapes Go.ChangeAt Go.RowKit Go.Deep Go.Maps

theorem pl_u8s : planOf Try.prog 8 86 = some (.sl 1 (.int .u8)) := by kernel_rfl
theorem pl_u8 : planOf Try.prog 8 5 = some (.int .u8) := by kernel_rfl
theorem okd_u8s {d : Dt} (h : OkD (.sl 1 (.int .u8)) d) : ∃ xs : List Int, shP (.sl 1 (.int .u8)) d = [.sl 1 2 (xs.map fun x => [sU8 x])] ∧ ∀ x ∈ xs, 0 ≤ x ∧ x ≤ 255 := by
  obtain ⟨ys, rfl, hy⟩ := okd_sl h
  obtain ⟨xs, e, hx⟩ := map_shP (p := .int .u8) (e := fun x : Int => [sU8 x]) (Q := fun x => 0 ≤ x ∧ x ≤ 255) (fun d hd => by
    obtain ⟨n, rfl, hn⟩ := okd_int hd
    exact ⟨n, rfl, hn⟩) ys hy
  exact ⟨xs, by show [Sh.sl 1 2 (ys.map fun x => shP (.int .u8) x)] = _; rw [e], hx⟩

set_option maxRecDepth 100000 in
theorem memoryCounts_lifted (os : Os) (started : os.Started) (H : Type) (enc : TypeId × Value → H) :
    ReturnsInHanded {} Try.checked os 7 .any (Rows.memoryCountsSpec.pre6 enc Try.prog Try.f7 Rows.memoryCountsRow.domain false) (Rows.memoryCountsSpec.post enc Try.prog Try.f7 false true false false) := by
  refine lifted_of (C := Try.checked) own started (by kernel_rfl) Try.func7
    (ChangeSpec.witness6 (enc := enc) (C := Try.checked) false ⟨#[], #[.slice Option.none 0 0, .int .u8 0], []⟩ 8 (by kernel_rfl) (by kernel_rfl) (by kernel_rfl) (by kernel_rfl))
    laidOut (by kernel_rfl) (tb := 4) (by kernel_rfl) Try.underlying4 rfl (fun ds h => match ds, h with | [_, _], _ => ⟨rfl, rfl, rfl⟩) ?_
  intro W base args ds p hval0 hA0
  have hval : ∀ (j : Nat) t v, Try.f7.params[j]? = some t → args[j]? = some v → Value.okWide Try.prog W .any base t v := hval0
  have hA : DataW.TrodAll enc Try.prog W 0 (fun _ => true) true Try.f7.params.toList args.toList ds p := hA0
  rw [Try.params7] at hA hval
  obtain ⟨v0, v1, d0, d1, p0, p1, rfl, rfl, rfl, a0, a1⟩ := trodAll_two hA
  obtain ⟨q0, o0, r0⟩ := argCell (okWide_one Try.underlying86 (.inr (.inr ⟨_, rfl⟩)) (hval 0 _ v0 rfl rfl)) pl_u8s a0
  obtain ⟨xs, e0, hxs⟩ := okd_u8s o0
  obtain ⟨q1, o1, r1⟩ := argCell (okWide_one Try.underlying5 (.inr (.inl ⟨_, rfl⟩)) (hval 1 _ v1 rfl rfl)) pl_u8 a1
  obtain ⟨n, rfl, hn⟩ := okd_int o1
  rw [e0] at r0
  exact retv_of_ok (vs := [v0, v1]) (ok_MemoryCounts 2 xs n hxs hn) (match r0, r1 with | .cons a .nil, .cons b .nil => .cons a (.cons b .nil))

theorem memoryCounts_holds : Rows.MemoryCountsSaid :=
  OpenClaim.holds_of_wide 7 Try.f7 rfl rfl rfl rfl rfl rfl rfl ⟨rfl, rfl, rfl, rfl, rfl⟩ rfl rfl rfl rfl rfl (by kernel_rfl) Try.func7 (by kernel_rfl)
    (of_decide_eq_true (by kernel_rfl)) (by unfold Func.isWrapper; first | (rw [if_pos (by decide +kernel)]; kernel_rfl) | (rw [if_neg (by decide +kernel)]; exact ⟨rfl, rfl⟩))
    (fun os started H enc _ => memoryCounts_lifted os started H enc)
end Go.Proofs.Ytfcjkchpldfamaa
