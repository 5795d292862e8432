/-
  ArenaStops: for every input the law returns true.
-/
import Derived.Test.YtkmbcjnaaokilaaGreatDoorK12zi
import Derived.Test.YtkmbcjnaaokilaaGreatDoorMK18
import Derived.Test.YtkmbcjnaaokilaaGreatDoorCard
namespace Go.Proofs.YtkmbcjnaaokilaaGreatDoor
set_option linter.unusedSimpArgs false
set_option linter.unusedVariables false
open Go.ChangeShapes Go.WideShapes Go.ChangeAt Go.RowKit Go.Deep Go.Maps
theorem Zv (os : Os) : laidMet Tryz.prog Rows.arenaStopsRow.laid ((JG os).forCall (fun _ _ => 0) ⟨#[],#[.agg #[.int .u8 0,.int .u8 0],.slice Option.none 0 0,.slice Option.none 0 0],[]⟩).memory :=
 laidMet_of_run' 8 (by kernel_rfl) (by kernel_rfl)
theorem Zx (os : Os) {H : Type} (enc : TypeId × Value → H) : (DataW.whole enc Tryz.prog ((JG os).forCall (fun _ _ => 0) ⟨#[],#[.agg #[.int .u8 0,.int .u8 0],.slice Option.none 0 0,.slice Option.none 0 0],[]⟩).memory Tryz.f5.params.toList Rows.arenaStopsSpec.vars false #[.agg #[.int .u8 0,.int .u8 0],.slice Option.none 0 0,.slice Option.none 0 0].toList 8).isSome = true := by kernel_rfl
set_option maxRecDepth 100000 in
theorem Zu (os : Os) (started : os.Started) (H : Type) (enc : TypeId × Value → H) (F : Stop.Interp) :
  ReturnsInHanded {} Tryz.checked os 5 .any ((OpenSpec.ofChange Rows.arenaStopsSpec).preRow enc Tryz.prog Tryz.f5 Rows.arenaStopsRow.domain false Rows.arenaStopsRow.laid) (((OpenSpec.ofChange Rows.arenaStopsSpec).at F).post enc Tryz.prog Tryz.f5 false true false false) := by
 obtain ⟨anP,ar⟩ := Option.isSome_iff_exists.1 (Zx os enc)
 refine aeJ (C := Tryz.checked) own started (by kernel_rfl) Tryz.func5
  (witness_row_at (enc := enc) (C := Tryz.checked) false (JG os) #[.agg #[.int .u8 0,.int .u8 0],.slice Option.none 0 0,.slice Option.none 0 0] rfl (by kernel_rfl) (by kernel_rfl) (by kernel_rfl)
   (OpenSpec.preRow_of_cond 8 ar rfl (fun k aB => by cases aB) (by kernel_rfl) (Zv os)))
  laidOut (by kernel_rfl) (tb := 4) (by kernel_rfl) Tryz.underlying4 rfl (fun ky h => match ky,h with | [_,_,_],_ => ⟨rfl,rfl,rfl⟩) ?_
 intro W base args ky p adZ jA ej
 have pn : ∀ (j : Nat) t v,Tryz.f5.params[j]? = some t → args[j]? = some v → Value.okWide Tryz.prog W .any base t v := adZ
 have br : DataW.TrodAll enc Tryz.prog W 0 (fun _ => true) true Tryz.f5.params.toList args.toList ky p := jA
 rw [Tryz.params5] at br pn
 obtain ⟨v0,v1,v2,d0,d1,d2,y4,eJ,fu,rfl,rfl,rfl,a0,bE,bP⟩ := trodAll_three br
 obtain ⟨Fv,afp,fp⟩ := Zz Tryz.underlying46 ag7 (pn 0 _ v0 rfl rfl) a0
 obtain ⟨UE,fs,xo⟩ := agR afp
 rw [fs] at fp
 obtain ⟨bL,eX,et⟩ := M3 (QF Tryz.underlying47 (.inr (.inr ⟨_,rfl⟩)) (pn 1 _ v1 rfl rfl)) ag5 bE
 obtain ⟨uL,a2,gB⟩ := agO eX
 rw [a2] at et
 obtain ⟨cd,eI,dP⟩ := M3 (QF Tryz.underlying48 (.inr (.inr ⟨_,rfl⟩)) (pn 2 _ v2 rfl rfl)) ag6 bP
 obtain ⟨x1,a8,EM⟩ := agQ eI
 rw [a8] at dP
 exact aho (vs := [v0,v1,v2]) (afH xo.1 xo.2 uL gB x1) (match fp,et,dP with | ha,.cons c4 .nil,.cons dm .nil => .cons ha (.cons c4 (.cons dm .nil))) (aa5 ej)
theorem Zy : Rows.ArenaStopsSaid :=
 OpenClaim.holds_of_cond 5 Tryz.f5 rfl rfl rfl rfl rfl rfl rfl ⟨rfl,rfl,rfl,rfl,rfl⟩ rfl rfl rfl rfl rfl (by kernel_rfl) Tryz.func5 (by kernel_rfl)
  (of_decide_eq_true (by kernel_rfl)) (by unfold Func.isWrapper; first | (rw [if_pos (by decide +kernel)]; kernel_rfl) | (rw [if_neg (by decide +kernel)]; exact ⟨rfl,rfl⟩))
  (fun os started H enc _ F => by rw [OpenClaim.pre_eq_preRow]; exact Zu os started H enc F)
theorem Zw (f : FuncId) (fn : Func) (aW : Tryz.pinned.checked.prog.funcNamed "simulcast/simulcastlaw12.ArenaStops" = some f) (yL : Tryz.pinned.checked.prog.funcs[f]? = some fn) :
  true = Tryz.pinned.checked.prog.looks [] ∧ ∀ (j : Nat) t,fn.params[j]? = some t → Tryz.pinned.checked.prog.wantsStandIn t = false := by
 obtain rfl : f = 5 := Option.some.inj ((show Tryz.prog.funcNamed "simulcast/simulcastlaw12.ArenaStops" = some 5 by kernel_rfl).symm.trans aW) |>.symm
 obtain rfl : fn = Tryz.f5 := (Option.some.inj (Tryz.func5.symm.trans yL)).symm
 refine ⟨by kernel_rfl,fun j t aO => ?_⟩
 have h : (Tryz.f5.params.toList.all fun t => !Tryz.prog.wantsStandIn t) = true := by kernel_rfl
 have af := List.all_eq_true.1 h t (Array.mem_toList_iff.2 (Array.mem_of_getElem? aO))
 show Tryz.prog.wantsStandIn t = false
 simpa using af
theorem arenaStops_holds : Rows.ArenaStopsCardSaid :=
 Claim7.holds_tied_plain_at .later [] _ _ _ _ Zy (fun _ h => by cases h) (by kernel_rfl) (fun _ h => by cases h) arenaStops_row_tie rfl ⟨rfl,rfl⟩ (by kernel_rfl) rfl Zw (by kernel_rfl)
end Go.Proofs.YtkmbcjnaaokilaaGreatDoor
