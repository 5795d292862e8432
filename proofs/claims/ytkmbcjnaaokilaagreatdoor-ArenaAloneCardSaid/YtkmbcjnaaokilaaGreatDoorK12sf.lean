/-
  ArenaAlone: for every input the law returns true.
-/
import Derived.Test.YtkmbcjnaaokilaaGreatDoorK12s
import Derived.Test.YtkmbcjnaaokilaaGreatDoorMK1
import Derived.Test.YtkmbcjnaaokilaaGreatDoorCard
namespace Go.Proofs.YtkmbcjnaaokilaaGreatDoor
set_option linter.unusedSimpArgs false
set_option linter.unusedVariables false
open Go.ChangeShapes Go.WideShapes Go.ChangeAt Go.RowKit Go.Deep Go.Maps
theorem arenaAlone_met (os : Os) : laidMet Tryz.prog Rows.arenaAloneRow.laid ((laidWorld os).forCall (fun _ _ => 0) ⟨#[],#[.int .u8 0,.slice Option.none 0 0],[]⟩).memory :=
 laidMet_of_run' 8 (by kernel_rfl) (by kernel_rfl)
theorem arenaAlone_reads (os : Os) {H : Type} (enc : TypeId × Value → H) : (DataW.whole enc Tryz.prog ((laidWorld os).forCall (fun _ _ => 0) ⟨#[],#[.int .u8 0,.slice Option.none 0 0],[]⟩).memory Tryz.f3.params.toList Rows.arenaAloneSpec.vars false #[.int .u8 0,.slice Option.none 0 0].toList 8).isSome = true := by kernel_rfl
set_option maxRecDepth 100000 in
theorem arenaAlone_lifted (os : Os) (started : os.Started) (H : Type) (enc : TypeId × Value → H) (F : Stop.Interp) :
  ReturnsInHanded {} Tryz.checked os 3 .any ((OpenSpec.ofChange Rows.arenaAloneSpec).preRow enc Tryz.prog Tryz.f3 Rows.arenaAloneRow.domain false Rows.arenaAloneRow.laid) (((OpenSpec.ofChange Rows.arenaAloneSpec).at F).post enc Tryz.prog Tryz.f3 false true false false) := by
 obtain ⟨xr,hx⟩ := Option.isSome_iff_exists.1 (arenaAlone_reads os enc)
 refine lifted_row_of (C := Tryz.checked) own started (by kernel_rfl) Tryz.func3
  (witness_row_at (enc := enc) (C := Tryz.checked) false (laidWorld os) #[.int .u8 0,.slice Option.none 0 0] rfl (by kernel_rfl) (by kernel_rfl) (by kernel_rfl)
   (OpenSpec.preRow_of_cond 8 hx rfl (fun k hk => by cases hk) (by kernel_rfl) (arenaAlone_met os)))
  laidOut (by kernel_rfl) (tb := 4) (by kernel_rfl) Tryz.underlying4 rfl (fun ds h => match ds,h with | [_,_],_ => ⟨rfl,rfl,rfl⟩) ?_
 intro W base args ds p hval0 hA0 hL
 have hval : ∀ (j : Nat) t v,Tryz.f3.params[j]? = some t → args[j]? = some v → Value.okWide Tryz.prog W .any base t v := hval0
 have hA : DataW.TrodAll enc Tryz.prog W 0 (fun _ => true) true Tryz.f3.params.toList args.toList ds p := hA0
 rw [Tryz.params3] at hA hval
 obtain ⟨v0,v1,d0,d1,p0,p1,rfl,rfl,rfl,a0,a1⟩ := trodAll_two hA
 obtain ⟨q0,o0,r0⟩ := argCell (okWide_one Tryz.underlying5 (.inr (.inl ⟨_,rfl⟩)) (hval 0 _ v0 rfl rfl)) pl_u8 a0
 obtain ⟨n0,rfl,hn0⟩ := okd_int o0
 obtain ⟨q1,o1,r1⟩ := argCell (okWide_one Tryz.underlying22 (.inr (.inr ⟨_,rfl⟩)) (hval 1 _ v1 rfl rfl)) pl_ops12 a1
 obtain ⟨x1,e1,hx1⟩ := okd_ops12 o1
 rw [e1] at r1
 exact retv_of_ok (vs := [v0,v1]) (ok_ArenaAlone hn0 x1 hx1) (match r0,r1 with | .cons b0 .nil,.cons b1 .nil => .cons b0 (.cons b1 .nil)) (gOk_laid hL)
theorem arenaAlone_said : Rows.ArenaAloneSaid :=
 OpenClaim.holds_of_cond 3 Tryz.f3 rfl rfl rfl rfl rfl rfl rfl ⟨rfl,rfl,rfl,rfl,rfl⟩ rfl rfl rfl rfl rfl (by kernel_rfl) Tryz.func3 (by kernel_rfl)
  (of_decide_eq_true (by kernel_rfl)) (by unfold Func.isWrapper; first | (rw [if_pos (by decide +kernel)]; kernel_rfl) | (rw [if_neg (by decide +kernel)]; exact ⟨rfl,rfl⟩))
  (fun os started H enc _ F => by rw [OpenClaim.pre_eq_preRow]; exact arenaAlone_lifted os started H enc F)
theorem arenaAlone_plain (f : FuncId) (fn : Func) (hf : Tryz.pinned.checked.prog.funcNamed "simulcast/simulcastlaw12.ArenaAlone" = some f) (hfn : Tryz.pinned.checked.prog.funcs[f]? = some fn) :
  true = Tryz.pinned.checked.prog.looks [] ∧ ∀ (j : Nat) t,fn.params[j]? = some t → Tryz.pinned.checked.prog.wantsStandIn t = false := by
 obtain rfl : f = 3 := Option.some.inj ((show Tryz.prog.funcNamed "simulcast/simulcastlaw12.ArenaAlone" = some 3 by kernel_rfl).symm.trans hf) |>.symm
 obtain rfl : fn = Tryz.f3 := (Option.some.inj (Tryz.func3.symm.trans hfn)).symm
 refine ⟨by kernel_rfl,fun j t ht => ?_⟩
 have h : (Tryz.f3.params.toList.all fun t => !Tryz.prog.wantsStandIn t) = true := by kernel_rfl
 have h1 := List.all_eq_true.1 h t (Array.mem_toList_iff.2 (Array.mem_of_getElem? ht))
 show Tryz.prog.wantsStandIn t = false
 simpa using h1
theorem arenaAlone_holds : Rows.ArenaAloneCardSaid :=
 Claim7.holds_tied_plain_at .later [] _ _ _ _ arenaAlone_said (fun _ h => by cases h) (by kernel_rfl) (fun _ h => by cases h) arenaAlone_row_tie rfl ⟨rfl,rfl⟩ (by kernel_rfl) rfl arenaAlone_plain (by kernel_rfl)
end Go.Proofs.YtkmbcjnaaokilaaGreatDoor
