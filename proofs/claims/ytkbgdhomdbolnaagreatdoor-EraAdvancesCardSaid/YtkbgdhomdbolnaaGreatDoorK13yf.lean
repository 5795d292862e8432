/-
  EraAdvances: for every input the law returns true.
-/
import Derived.Test.YtkbgdhomdbolnaaGreatDoorK13y
import Derived.Test.YtkbgdhomdbolnaaGreatDoorArg13
import Derived.Test.YtkbgdhomdbolnaaGreatDoorCard
namespace Go.Proofs.YtkbgdhomdbolnaaGreatDoor
set_option linter.unusedSimpArgs false
set_option linter.unusedVariables false
open Go.ChangeShapes Go.WideShapes Go.ChangeAt Go.RowKit Go.Deep Go.Maps

theorem eraAdvances_met (os : Os) : laidMet Tryz.prog Rows.eraAdvancesRow.laid ((laidWorld os).forCall (fun _ _ => 0) ⟨#[], #[.slice Option.none 0 0, .int .u8 0], []⟩).memory :=
  laidMet_of_run' 8 (by kernel_rfl) (by kernel_rfl)
theorem eraAdvances_reads (os : Os) {H : Type} (enc : TypeId × Value → H) : (DataW.whole enc Tryz.prog ((laidWorld os).forCall (fun _ _ => 0) ⟨#[], #[.slice Option.none 0 0, .int .u8 0], []⟩).memory Tryz.f10.params.toList Rows.eraAdvancesSpec.vars false #[.slice Option.none 0 0, .int .u8 0].toList 8).isSome = true := by kernel_rfl
set_option maxRecDepth 100000 in
theorem eraAdvances_lifted (os : Os) (started : os.Started) (H : Type) (enc : TypeId × Value → H) (F : Stop.Interp) :
    ReturnsInHanded {} Tryz.checked os 10 .any ((OpenSpec.ofChange Rows.eraAdvancesSpec).preRow enc Tryz.prog Tryz.f10 Rows.eraAdvancesRow.domain false Rows.eraAdvancesRow.laid) (((OpenSpec.ofChange Rows.eraAdvancesSpec).at F).post enc Tryz.prog Tryz.f10 false true false false) := by
  obtain ⟨xr, hx⟩ := Option.isSome_iff_exists.1 (eraAdvances_reads os enc)
  refine lifted_row_of (C := Tryz.checked) own started (by kernel_rfl) Tryz.func10
    (witness_row_at (enc := enc) (C := Tryz.checked) false (laidWorld os) #[.slice Option.none 0 0, .int .u8 0] rfl (by kernel_rfl) (by kernel_rfl) (by kernel_rfl)
      (OpenSpec.preRow_of_cond 8 hx rfl (fun k hk => by cases hk) (by kernel_rfl) (eraAdvances_met os)))
    laidOut (by kernel_rfl) (tb := 4) (by kernel_rfl) Tryz.underlying4 rfl (fun ds h => match ds, h with | [_, _], _ => ⟨rfl, rfl, rfl⟩) ?_
  intro W base args ds p hval0 hA0 hL
  have hval : ∀ (j : Nat) t v, Tryz.f10.params[j]? = some t → args[j]? = some v → Value.okWide Tryz.prog W .any base t v := hval0
  have hA : DataW.TrodAll enc Tryz.prog W 0 (fun _ => true) true Tryz.f10.params.toList args.toList ds p := hA0
  rw [Tryz.params10] at hA hval
  obtain ⟨v0, v1, d0, d1, p0, p1, rfl, rfl, rfl, a0, a1⟩ := trodAll_two hA
  obtain ⟨q0, o0, r0⟩ := argCell (okWide_one Tryz.underlying42 (.inr (.inr ⟨_, rfl⟩)) (hval 0 _ v0 rfl rfl)) pl_picks a0
  obtain ⟨x0, e0, hx0⟩ := okd_picks o0
  rw [e0] at r0
  obtain ⟨q1, o1, r1⟩ := argCell (okWide_one Tryz.underlying5 (.inr (.inl ⟨_, rfl⟩)) (hval 1 _ v1 rfl rfl)) pl_u8 a1
  obtain ⟨n1, rfl, hn1⟩ := okd_int o1
  exact retv_of_ok (vs := [v0, v1]) (ok_EraAdvances x0 n1 hn1) (match r0, r1 with | .cons b0 .nil, .cons b1 .nil => .cons b0 (.cons b1 .nil)) (gOk_laid hL)

theorem eraAdvances_said : Rows.EraAdvancesSaid :=
  OpenClaim.holds_of_cond 10 Tryz.f10 rfl rfl rfl rfl rfl rfl rfl ⟨rfl, rfl, rfl, rfl, rfl⟩ rfl rfl rfl rfl rfl (by kernel_rfl) Tryz.func10 (by kernel_rfl)
    (of_decide_eq_true (by kernel_rfl)) (by unfold Func.isWrapper; first | (rw [if_pos (by decide +kernel)]; kernel_rfl) | (rw [if_neg (by decide +kernel)]; exact ⟨rfl, rfl⟩))
    (fun os started H enc _ F => by rw [OpenClaim.pre_eq_preRow]; exact eraAdvances_lifted os started H enc F)
theorem eraAdvances_plain (f : FuncId) (fn : Func) (hf : Tryz.pinned.checked.prog.funcNamed "simulcast/simulcastlaw13.EraAdvances" = some f) (hfn : Tryz.pinned.checked.prog.funcs[f]? = some fn) :
    true = Tryz.pinned.checked.prog.looks [] ∧ ∀ (j : Nat) t, fn.params[j]? = some t → Tryz.pinned.checked.prog.wantsStandIn t = false := by
  obtain rfl : f = 10 := Option.some.inj ((show Tryz.prog.funcNamed "simulcast/simulcastlaw13.EraAdvances" = some 10 by kernel_rfl).symm.trans hf) |>.symm
  obtain rfl : fn = Tryz.f10 := (Option.some.inj (Tryz.func10.symm.trans hfn)).symm
  refine ⟨by kernel_rfl, fun j t ht => ?_⟩
  have h : (Tryz.f10.params.toList.all fun t => !Tryz.prog.wantsStandIn t) = true := by kernel_rfl
  have h1 := List.all_eq_true.1 h t (Array.mem_toList_iff.2 (Array.mem_of_getElem? ht))
  show Tryz.prog.wantsStandIn t = false
  simpa using h1
theorem eraAdvances_holds : Rows.EraAdvancesCardSaid :=
  Claim7.holds_tied_plain_at .later [] _ _ _ _ eraAdvances_said (fun _ h => by cases h) (by kernel_rfl) (fun _ h => by cases h) eraAdvances_row_tie rfl ⟨rfl, rfl⟩ (by kernel_rfl) rfl eraAdvances_plain (by kernel_rfl)
end Go.Proofs.YtkbgdhomdbolnaaGreatDoor
