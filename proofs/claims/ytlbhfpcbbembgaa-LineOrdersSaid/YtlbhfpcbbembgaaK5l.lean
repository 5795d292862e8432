/-
  LineOrders: for every input the law returns true.
-/
import Derived.Test.YtlbhfpcbbembgaaK5k
import Derived.Test.YtlbhfpcbbembgaaRep
namespace Go.Proofs.Ytlbhfpcbbembgaa
set_option linter.unusedSimpArgs false
set_option linter.unusedVariables false
open Go.ChangeShapes Go.WideShapes Go.ChangeAt Go.RowKit Go.Deep Go.Maps

set_option maxRecDepth 100000 in
theorem lineOrders_lifted (os : Os) (started : os.Started) (H : Type) (enc : TypeId × Value → H) :
    ReturnsInHanded {} Try.checked os 9 .any (Rows.lineOrdersSpec.pre6 enc Try.prog Try.f9 Rows.lineOrdersRow.domain false) (Rows.lineOrdersSpec.post enc Try.prog Try.f9 false true false false) := by
  refine lifted_of (C := Try.checked) own started (by kernel_rfl) Try.func9
    (ChangeSpec.witness6 (enc := enc) (C := Try.checked) false ⟨#[], #[.slice Option.none 0 0, .int .i64 0], []⟩ 8 (by kernel_rfl) (by kernel_rfl) (by kernel_rfl) (by kernel_rfl))
    laidOut (by kernel_rfl) (tb := 4) (by kernel_rfl) Try.underlying4 rfl (fun ds h => match ds, h with | [_, _], _ => ⟨rfl, rfl, rfl⟩) ?_
  intro W base args ds p hval0 hA0
  have hval : ∀ (j : Nat) t v, Try.f9.params[j]? = some t → args[j]? = some v → Value.okWide Try.prog W .any base t v := hval0
  have hA : DataW.TrodAll enc Try.prog W 0 (fun _ => true) true Try.f9.params.toList args.toList ds p := hA0
  rw [Try.params9] at hA hval
  obtain ⟨v0, v1, d0, d1, p0, p1, rfl, rfl, rfl, a0, a1⟩ := trodAll_two hA
  obtain ⟨s, xs, rfl, hsl, hc⟩ := sliceOpen (R := EncR eB fun b => 0 ≤ b ∧ b ≤ 255) (m := 4) (ks := [.int .u8]) Try.underlying54 (by kernel_rfl) (by kernel_rfl) (fun cs hF => by
    obtain ⟨b, _, rfl, l1, l2, hF⟩ := hF.int
    cases hF.nil
    exact ⟨b, .cons (rep_int _ _) .nil, rfl, l1, l2⟩) (hval 0 _ v0 rfl rfl) a0
  obtain ⟨hs, hx⟩ := slice_rep hsl hc
  obtain ⟨c, rfl, rfl, rfl, _⟩ := open_int Try.underlying3 (hval 1 _ v1 rfl rfl) a1
  exact retv_of_ok (vs := [.slice s.a s.n s.c, .int .i64 c]) (ok_LineOrders xs 2 c hx) (.cons hs (.cons (rep_int _ _) .nil))

theorem lineOrders_holds : Rows.LineOrdersSaid :=
  OpenClaim.holds_of_wide 9 Try.f9 rfl rfl rfl rfl rfl rfl rfl ⟨rfl, rfl, rfl, rfl, rfl⟩ rfl rfl rfl rfl rfl (by kernel_rfl) Try.func9 (by kernel_rfl)
    (of_decide_eq_true (by kernel_rfl)) (by unfold Func.isWrapper; first | (rw [if_pos (by decide +kernel)]; kernel_rfl) | (rw [if_neg (by decide +kernel)]; exact ⟨rfl, rfl⟩))
    (fun os started H enc _ => lineOrders_lifted os started H enc)
end Go.Proofs.Ytlbhfpcbbembgaa
