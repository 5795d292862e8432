/-
  ArenaApart: for every input the law returns true.
-/
import Derived.Test.YtkmbcjnaaokilaaGreatDoorK12zg
import Derived.Test.YtkmbcjnaaokilaaGreatDoorMK13
import Derived.Test.YtkmbcjnaaokilaaGreatDoorCard
namespace Go.Proofs.YtkmbcjnaaokilaaGreatDoor
set_option linter.unusedSimpArgs false
set_option linter.unusedVariables false
open Go.ChangeShapes Go.WideShapes Go.ChangeAt Go.RowKit Go.Deep Go.Maps
theorem acJ (os : Os) : laidMet Tryz.prog Rows.arenaApartRow.laid ((Mb os).forCall (fun _ _ => 0) ⟨#[],#[.agg #[.int .u8 0,.int .u8 0],.slice Option.none 0 0,.slice Option.none 0 0],[]⟩).memory :=
 laidMet_of_run' 8 (by kernel_rfl) (by kernel_rfl)
theorem acL (os : Os) {H : Type} (enc : TypeId × Value → H) : (DataW.whole enc Tryz.prog ((Mb os).forCall (fun _ _ => 0) ⟨#[],#[.agg #[.int .u8 0,.int .u8 0],.slice Option.none 0 0,.slice Option.none 0 0],[]⟩).memory Tryz.f4.params.toList Rows.arenaApartSpec.vars false #[.agg #[.int .u8 0,.int .u8 0],.slice Option.none 0 0,.slice Option.none 0 0].toList 8).isSome = true := by kernel_rfl
set_option maxRecDepth 100000 in
theorem acI (os : Os) (started : os.Started) (H : Type) (enc : TypeId × Value → H) (F : Stop.Interp) :
  ReturnsInHanded {} Tryz.checked os 4 .any ((OpenSpec.ofChange Rows.arenaApartSpec).preRow enc Tryz.prog Tryz.f4 Rows.arenaApartRow.domain false Rows.arenaApartRow.laid) (((OpenSpec.ofChange Rows.arenaApartSpec).at F).post enc Tryz.prog Tryz.f4 false true false false) := by
 obtain ⟨arF,ar⟩ := Option.isSome_iff_exists.1 (acL os enc)
 refine aii (C := Tryz.checked) own started (by kernel_rfl) Tryz.func4
  (witness_row_at (enc := enc) (C := Tryz.checked) false (Mb os) #[.agg #[.int .u8 0,.int .u8 0],.slice Option.none 0 0,.slice Option.none 0 0] rfl (by kernel_rfl) (by kernel_rfl) (by kernel_rfl)
   (OpenSpec.preRow_of_cond 8 ar rfl (fun k az => by cases az) (by kernel_rfl) (acJ os)))
  laidOut (by kernel_rfl) (tb := 4) (by kernel_rfl) Tryz.underlying4 rfl (fun kt h => match kt,h with | [_,_,_],_ => ⟨rfl,rfl,rfl⟩) ?_
 intro W base args kt p ahm jP fS
 have qq : ∀ (j : Nat) t v,Tryz.f4.params[j]? = some t → args[j]? = some v → Value.okWide Tryz.prog W .any base t v := ahm
 have br : DataW.TrodAll enc Tryz.prog W 0 (fun _ => true) true Tryz.f4.params.toList args.toList kt p := jP
 rw [Tryz.params4] at br qq
 obtain ⟨v0,v1,v2,d0,d1,d2,xB,eR,fi,rfl,rfl,rfl,a0,bS,bH⟩ := trodAll_three br
 obtain ⟨Uo,ai3,zo⟩ := acN Tryz.underlying46 akE (qq 0 _ v0 rfl rfl) a0
 obtain ⟨XV,fD,y2⟩ := akl ai3
 rw [fD] at zo
 obtain ⟨bJ,e2,dI⟩ := PT (TF Tryz.underlying47 (.inr (.inr ⟨_,rfl⟩)) (qq 1 _ v1 rfl rfl)) akC bS
 obtain ⟨v7,a1,e7⟩ := aki e2
 rw [a1] at dI
 obtain ⟨cf,eQ,dS⟩ := PT (TF Tryz.underlying48 (.inr (.inr ⟨_,rfl⟩)) (qq 2 _ v2 rfl rfl)) akD bH
 obtain ⟨so,a7,GU⟩ := akk eQ
 rw [a7] at dS
 exact akZ (vs := [v0,v1,v2]) (ajg y2.1 y2.2 v7 e7 so) (match zo,dI,dS with | fP,.cons dh .nil,.cons dv .nil => .cons fP (.cons dh (.cons dv .nil))) (aew fS)
theorem acM : Rows.ArenaApartSaid :=
 OpenClaim.holds_of_cond 4 Tryz.f4 rfl rfl rfl rfl rfl rfl rfl ⟨rfl,rfl,rfl,rfl,rfl⟩ rfl rfl rfl rfl rfl (by kernel_rfl) Tryz.func4 (by kernel_rfl)
  (of_decide_eq_true (by kernel_rfl)) (by unfold Func.isWrapper; first | (rw [if_pos (by decide +kernel)]; kernel_rfl) | (rw [if_neg (by decide +kernel)]; exact ⟨rfl,rfl⟩))
  (fun os started H enc _ F => by rw [OpenClaim.pre_eq_preRow]; exact acI os started H enc F)
theorem acK (f : FuncId) (fn : Func) (aZ : Tryz.pinned.checked.prog.funcNamed "simulcast/simulcastlaw12.ArenaApart" = some f) (Ar : Tryz.pinned.checked.prog.funcs[f]? = some fn) :
  true = Tryz.pinned.checked.prog.looks [] ∧ ∀ (j : Nat) t,fn.params[j]? = some t → Tryz.pinned.checked.prog.wantsStandIn t = false := by
 obtain rfl : f = 4 := Option.some.inj ((show Tryz.prog.funcNamed "simulcast/simulcastlaw12.ArenaApart" = some 4 by kernel_rfl).symm.trans aZ) |>.symm
 obtain rfl : fn = Tryz.f4 := (Option.some.inj (Tryz.func4.symm.trans Ar)).symm
 refine ⟨by kernel_rfl,fun j t aL => ?_⟩
 have h : (Tryz.f4.params.toList.all fun t => !Tryz.prog.wantsStandIn t) = true := by kernel_rfl
 have af := List.all_eq_true.1 h t (Array.mem_toList_iff.2 (Array.mem_of_getElem? aL))
 show Tryz.prog.wantsStandIn t = false
 simpa using af
theorem arenaApart_holds : Rows.ArenaApartCardSaid :=
 Claim7.holds_tied_plain_at .later [] _ _ _ _ acM (fun _ h => by cases h) (by kernel_rfl) (fun _ h => by cases h) arenaApart_row_tie rfl ⟨rfl,rfl⟩ (by kernel_rfl) rfl acK (by kernel_rfl)
end Go.Proofs.YtkmbcjnaaokilaaGreatDoor
