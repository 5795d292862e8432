/-
  LinePlays: for every input the law returns true.
-/
import Derived.Test.YtlbhfpcbbembgaaK5u
import Derived.Test.YtlbhfpcbbembgaaRep
namespace Go.Proofs.Ytlbhfpcbbembgaa
set_option linter.unusedSimpArgs false
set_option linter.unusedVariables false
open Go.ChangeShapes Go.WideShapes Go.ChangeAt Go.RowKit Go.Deep Go.Maps

set_option maxRecDepth 100000 in
theorem linePlays_lifted (os : Os) (started : os.Started) (H : Type) (enc : TypeId × Value → H) :
    ReturnsInHanded {} Try.checked os 11 .any (Rows.linePlaysSpec.pre6 enc Try.prog Try.f11 Rows.linePlaysRow.domain false) (Rows.linePlaysSpec.post enc Try.prog Try.f11 false true false false) := by
  refine lifted_of (C := Try.checked) own started (by kernel_rfl) Try.func11
    (ChangeSpec.witness6 (enc := enc) (C := Try.checked) false ⟨#[], #[.slice Option.none 0 0, .slice Option.none 0 0, .int .i64 0], []⟩ 8 (by kernel_rfl) (by kernel_rfl) (by kernel_rfl) (by kernel_rfl))
    laidOut (by kernel_rfl) (tb := 4) (by kernel_rfl) Try.underlying4 rfl (fun ds h => match ds, h with | [_, _, _], _ => ⟨rfl, rfl, rfl⟩) ?_
  intro W base args ds p hval0 hA0
  have hval : ∀ (j : Nat) t v, Try.f11.params[j]? = some t → args[j]? = some v → Value.okWide Try.prog W .any base t v := hval0
  have hA : DataW.TrodAll enc Try.prog W 0 (fun _ => true) true Try.f11.params.toList args.toList ds p := hA0
  rw [Try.params11] at hA hval
  obtain ⟨v0, v1, v2, d0, d1, d2, p0, p1, p2, rfl, rfl, rfl, a0, a1, a2⟩ := trodAll_three hA
  obtain ⟨s, ws, rfl, hsl, hc⟩ := sliceOpen (R := EncR eWord fun _ => True) (m := 4) (ks := [.int .i64, .int .u32, .int .u32]) Try.underlying55 (by kernel_rfl) (by kernel_rfl) (fun cs hF => by
    obtain ⟨b, _, rfl, _, _, hF⟩ := hF.int
    obtain ⟨v, _, rfl, _, _, hF⟩ := hF.int
    obtain ⟨r, _, rfl, _, _, hF⟩ := hF.int
    cases hF.nil
    exact ⟨⟨b, v, r⟩, .cons (rep_int _ _) (.cons (rep_int _ _) (.cons (rep_int _ _) .nil)), rfl, trivial⟩) (hval 0 _ v0 rfl rfl) a0
  obtain ⟨hs, _⟩ := slice_rep hsl hc
  obtain ⟨s2, ls, rfl, hsl2, hc2⟩ := sliceOpen (R := EncR eAct fun a => 0 ≤ a.kind ∧ a.kind ≤ 255) (m := 4) (ks := [.int .u8, .int .i64, .int .i64, .int .i64, .int .u32, .int .u32]) Try.underlying69 (by kernel_rfl) (by kernel_rfl) (fun cs hF => by
    obtain ⟨k, _, rfl, l1, l2, hF⟩ := hF.int
    obtain ⟨t, _, rfl, _, _, hF⟩ := hF.int
    obtain ⟨p, _, rfl, _, _, hF⟩ := hF.int
    obtain ⟨b, _, rfl, _, _, hF⟩ := hF.int
    obtain ⟨v, _, rfl, _, _, hF⟩ := hF.int
    obtain ⟨r, _, rfl, _, _, hF⟩ := hF.int
    cases hF.nil
    exact ⟨⟨k, t, p, ⟨b, v, r⟩⟩, .cons (rep_int _ _) (.cons (rep_int _ _) (.cons (rep_int _ _) (.cons (rep_int _ _) (.cons (rep_int _ _) (.cons (rep_int _ _) .nil))))), rfl, l1, l2⟩) (hval 1 _ v1 rfl rfl) a1
  obtain ⟨hs2, hl⟩ := slice_rep hsl2 hc2
  obtain ⟨c, rfl, rfl, rfl, _⟩ := open_int Try.underlying3 (hval 2 _ v2 rfl rfl) a2
  exact retv_of_ok (vs := [.slice s.a s.n s.c, .slice s2.a s2.n s2.c, .int .i64 c]) (ok_LinePlays ws 2 ls 2 c hl) (.cons hs (.cons hs2 (.cons (rep_int _ _) .nil)))

theorem linePlays_holds : Rows.LinePlaysSaid :=
  OpenClaim.holds_of_wide 11 Try.f11 rfl rfl rfl rfl rfl rfl rfl ⟨rfl, rfl, rfl, rfl, rfl⟩ rfl rfl rfl rfl rfl (by kernel_rfl) Try.func11 (by kernel_rfl)
    (of_decide_eq_true (by kernel_rfl)) (by unfold Func.isWrapper; first | (rw [if_pos (by decide +kernel)]; kernel_rfl) | (rw [if_neg (by decide +kernel)]; exact ⟨rfl, rfl⟩))
    (fun os started H enc _ => linePlays_lifted os started H enc)
end Go.Proofs.Ytlbhfpcbbembgaa
