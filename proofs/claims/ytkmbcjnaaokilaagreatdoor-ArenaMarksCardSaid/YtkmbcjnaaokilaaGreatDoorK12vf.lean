/-
  ArenaMarks: for every input the law returns true.
-/
import Derived.Test.YtkmbcjnaaokilaaGreatDoorK12v
import Derived.Test.YtkmbcjnaaokilaaGreatDoorMK6
import Derived.Test.YtkmbcjnaaokilaaGreatDoorCard
namespace Go.Proofs.YtkmbcjnaaokilaaGreatDoor
set_option linter.unusedSimpArgs false
set_option linter.unusedVariables false
open Go.ChangeShapes Go.WideShapes Go.ChangeAt Go.RowKit Go.Deep Go.Maps
theorem arenaMarks_met (os : Os) : laidMet Tryz.prog Rows.arenaMarksRow.laid ((laidWorld os).forCall (fun _ _ => 0) ⟨#[],#[.agg #[.int .u8 0,.int .u8 0],.slice Option.none 0 0,.int .u8 0],[]⟩).memory :=
 laidMet_of_run' 8 (by kernel_rfl) (by kernel_rfl)
theorem arenaMarks_reads (os : Os) {H : Type} (enc : TypeId × Value → H) : (DataW.whole enc Tryz.prog ((laidWorld os).forCall (fun _ _ => 0) ⟨#[],#[.agg #[.int .u8 0,.int .u8 0],.slice Option.none 0 0,.int .u8 0],[]⟩).memory Tryz.f6.params.toList Rows.arenaMarksSpec.vars false #[.agg #[.int .u8 0,.int .u8 0],.slice Option.none 0 0,.int .u8 0].toList 8).isSome = true := by kernel_rfl
set_option maxRecDepth 100000 in
theorem arenaMarks_lifted (os : Os) (started : os.Started) (H : Type) (enc : TypeId × Value → H) (F : Stop.Interp) :
  ReturnsInHanded {} Tryz.checked os 6 .any ((OpenSpec.ofChange Rows.arenaMarksSpec).preRow enc Tryz.prog Tryz.f6 Rows.arenaMarksRow.domain false Rows.arenaMarksRow.laid) (((OpenSpec.ofChange Rows.arenaMarksSpec).at F).post enc Tryz.prog Tryz.f6 false true false false) := by
 obtain ⟨xr,hx⟩ := Option.isSome_iff_exists.1 (arenaMarks_reads os enc)
 refine lifted_row_of (C := Tryz.checked) own started (by kernel_rfl) Tryz.func6
  (witness_row_at (enc := enc) (C := Tryz.checked) false (laidWorld os) #[.agg #[.int .u8 0,.int .u8 0],.slice Option.none 0 0,.int .u8 0] rfl (by kernel_rfl) (by kernel_rfl) (by kernel_rfl)
   (OpenSpec.preRow_of_cond 8 hx rfl (fun k hk => by cases hk) (by kernel_rfl) (arenaMarks_met os)))
  laidOut (by kernel_rfl) (tb := 4) (by kernel_rfl) Tryz.underlying4 rfl (fun ds h => match ds,h with | [_,_,_],_ => ⟨rfl,rfl,rfl⟩) ?_
 intro W base args ds p hval0 hA0 hL
 have hval : ∀ (j : Nat) t v,Tryz.f6.params[j]? = some t → args[j]? = some v → Value.okWide Tryz.prog W .any base t v := hval0
 have hA : DataW.TrodAll enc Tryz.prog W 0 (fun _ => true) true Tryz.f6.params.toList args.toList ds p := hA0
 rw [Tryz.params6] at hA hval
 obtain ⟨v0,v1,v2,d0,d1,d2,p0,p1,p2,rfl,rfl,rfl,a0,a1,a2⟩ := trodAll_three hA
 obtain ⟨q0,o0,r0⟩ := argArray Tryz.underlying46 pl_u2 (hval 0 _ v0 rfl rfl) a0
 obtain ⟨x0,e0,hx0⟩ := okd_u2 o0
 rw [e0] at r0
 obtain ⟨q1,o1,r1⟩ := argCell (okWide_one Tryz.underlying29 (.inr (.inr ⟨_,rfl⟩)) (hval 1 _ v1 rfl rfl)) pl_ints a1
 obtain ⟨x1,e1,hx1⟩ := okd_ints o1
 rw [e1] at r1
 obtain ⟨q2,o2,r2⟩ := argCell (okWide_one Tryz.underlying5 (.inr (.inl ⟨_,rfl⟩)) (hval 2 _ v2 rfl rfl)) pl_u8 a2
 obtain ⟨n2,rfl,hn2⟩ := okd_int o2
 exact retv_of_ok (vs := [v0,v1,v2]) (ok_ArenaMarks hx0.1 hx0.2 x1 hn2) (match r0,r1,r2 with | b0,.cons b1 .nil,.cons b2 .nil => .cons b0 (.cons b1 (.cons b2 .nil))) (gOk_laid hL)
theorem arenaMarks_said : Rows.ArenaMarksSaid :=
 OpenClaim.holds_of_cond 6 Tryz.f6 rfl rfl rfl rfl rfl rfl rfl ⟨rfl,rfl,rfl,rfl,rfl⟩ rfl rfl rfl rfl rfl (by kernel_rfl) Tryz.func6 (by kernel_rfl)
  (of_decide_eq_true (by kernel_rfl)) (by unfold Func.isWrapper; first | (rw [if_pos (by decide +kernel)]; kernel_rfl) | (rw [if_neg (by decide +kernel)]; exact ⟨rfl,rfl⟩))
  (fun os started H enc _ F => by rw [OpenClaim.pre_eq_preRow]; exact arenaMarks_lifted os started H enc F)
theorem arenaMarks_plain (f : FuncId) (fn : Func) (hf : Tryz.pinned.checked.prog.funcNamed "simulcast/simulcastlaw12.ArenaMarks" = some f) (hfn : Tryz.pinned.checked.prog.funcs[f]? = some fn) :
  true = Tryz.pinned.checked.prog.looks [] ∧ ∀ (j : Nat) t,fn.params[j]? = some t → Tryz.pinned.checked.prog.wantsStandIn t = false := by
 obtain rfl : f = 6 := Option.some.inj ((show Tryz.prog.funcNamed "simulcast/simulcastlaw12.ArenaMarks" = some 6 by kernel_rfl).symm.trans hf) |>.symm
 obtain rfl : fn = Tryz.f6 := (Option.some.inj (Tryz.func6.symm.trans hfn)).symm
 refine ⟨by kernel_rfl,fun j t ht => ?_⟩
 have h : (Tryz.f6.params.toList.all fun t => !Tryz.prog.wantsStandIn t) = true := by kernel_rfl
 have h1 := List.all_eq_true.1 h t (Array.mem_toList_iff.2 (Array.mem_of_getElem? ht))
 show Tryz.prog.wantsStandIn t = false
 simpa using h1
theorem arenaMarks_holds : Rows.ArenaMarksCardSaid :=
 Claim7.holds_tied_plain_at .later [] _ _ _ _ arenaMarks_said (fun _ h => by cases h) (by kernel_rfl) (fun _ h => by cases h) arenaMarks_row_tie rfl ⟨rfl,rfl⟩ (by kernel_rfl) rfl arenaMarks_plain (by kernel_rfl)
end Go.Proofs.YtkmbcjnaaokilaaGreatDoor
