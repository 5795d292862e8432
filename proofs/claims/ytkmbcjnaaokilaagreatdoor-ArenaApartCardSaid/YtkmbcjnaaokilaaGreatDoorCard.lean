/-
  The frame of a law's tied card, where the row lists the table of sizes.
-/
import Derived.Test.YtkmbcjnaaokilaaGreatDoorCards
import Derived.Test.YtkmbcjnaaokilaaGreatDoorTie
import Derived.Deep.DeepHandedRow
import Derived.Lib.LaidTab
import Derived.Test.YtkmbcjnaaokilaaGreatDoorMC
namespace Go.Proofs.YtkmbcjnaaokilaaGreatDoor
set_option linter.unusedSimpArgs false
set_option linter.unusedVariables false
open Go.ChangeShapes Go.WideShapes Go.ChangeAt Go.RowKit Go.Deep

abbrev aid : List (String × DataW Unit) := [("simulcast/layout.sizes",Rows.laid_simulcast_layout_sizes)]
theorem Q8 : Tryz.prog.globalNamed "simulcast/layout.sizes" = some 0 := by kernel_rfl
theorem aew {W : World} (h : laidMetH Tryz.prog aid W) : wa (qS W) := by
 have aL : Lib.TabIs Tryz.prog W "simulcast/layout.sizes" .i64 [8,8,8,1,104,0,32] :=
  Lib.tabIs_of_head (rest := []) (t := 147) Q8 (by kernel_rfl) Tryz.underlying147 Tryz.underlying3 (by kernel_rfl) (by kernel_rfl) h
 have aB := fun i aq => aL.cell Q8 i aq
 intro p hp
 rw [List.mem_singleton.1 hp]
 obtain ⟨cells,t,c0,_,af,aj⟩ := wG (aB 0 (by decide))
 refine ⟨cells,t,c0,af,fun j u hu => ?_⟩
 have aN : j < 7 := (List.getElem?_eq_some_iff.1 hu).1
 obtain ⟨Js,t',JX,_,cL,k2⟩ := wG (aB j aN)
 have e := Option.some.inj (af.symm.trans cL)
 injection e with a1 _ _
 rw [a1,k2]
 match j,aN with
 | 0,_ => exact hu
 | 1,_ => exact hu
 | 2,_ => exact hu
 | 3,_ => exact hu
 | 4,_ => exact hu
 | 5,_ => exact hu
 | 6,_ => exact hu
noncomputable def Mb (os : Os) : World :=
 { World.holding Tryz.prog os ⟨#[],#[],[]⟩ with heap := (World.holding Tryz.prog os ⟨#[],#[],[]⟩).heap.modify 0 fun
   | .cells _ t frozen => .cells #[.int .i64 8,.int .i64 8,.int .i64 8,.int .i64 1,.int .i64 104,.int .i64 0,.int .i64 32] t frozen
   | o => o }
variable {H : Type} {enc : TypeId × Value → H}
theorem aii {C : Checked} {os : Os} {f : FuncId} {fn : Func} {s : ChangeSpec} {F : Stop.Interp} {conds : List PathCond} {tb : TypeId} {laid : List (String × DataW Unit)}
  (own : ownKnob C.prog.godebug = none) (started : os.Started) (aiZ : C.prog.inits.idxOf? f = none) (Ar : C.prog.funcs[f]? = some fn)
  (witness : ∃ (w : World) (tape : Tape) (i : Input),w.os = os ∧ (w.forCall tape i).Shaped C.prog ∧ i.vars = [] ∧ Input.okWide C.prog (w.forCall tape i) .any w.heap.size f i ∧
   (OpenSpec.ofChange s).preRow enc C.prog fn conds false laid (w.forCall tape i).memory i.args ∧ ({} : Assume).holds C.prog (lone (Frame.enter C.prog f i.args .normal) [] (w.forCall tape i)))
  (aE : laidOutB C.prog = true) (hp : (fn.params.toList.all fun t => C.prog.readableRec t && decide (t < C.prog.types.size)) = true)
  (aA : fn.resultTypes = #[tb]) (ahj : C.prog.underlying tb = some .bool) (bj : s.vars = [])
  (ao : ∀ kt,kt.length = fn.params.toList.length → (s.fn H kt).results = [.lit (.bool true)] ∧ (s.fn H kt).args = kt ∧ (s.fn H kt).vars = [])
  (walk : ∀ (W : World) (base : Nat) (args : Array Value) (kt : List (DataW H)) (p : List MemPlace),
   (∀ (j : Nat) t v,fn.params[j]? = some t → args[j]? = some v → Value.okWide C.prog W .any base t v) →
   DataW.TrodAll enc C.prog W 0 (fun _ => true) true fn.params.toList args.toList kt p → laidMetH C.prog laid W → wm C.prog f args W (.bool true)) :
  ReturnsInHanded {} C os f .any ((OpenSpec.ofChange s).preRow enc C.prog fn conds false laid) (((OpenSpec.ofChange s).at F).post enc C.prog fn false true false false) := by
 refine returnsInHanded_of_row (C := C) (s := OpenSpec.ofChange s) own started aiZ Ar witness ?_
 intro W base args kt gs before qq ng _ _ _ fS _ _
 change DataW.Whole enc C.prog fn.params.toList s.vars false W args.toList kt gs before at ng
 have Kt := ng
 obtain ⟨p,q,br,q5,rfl,aqx,At⟩ := ng
 rw [bj] at q5
 obtain ⟨rfl,rfl⟩ := trodVars_none q5
 have hlen := XA br
 obtain ⟨a1,a7,ct⟩ := ao kt hlen
 refine (walk W base args kt p qq br fS).mono fun e E4 ⟨he,aI⟩ => ?_
 subst he
 refine ⟨_,rfl,?_⟩
 show s.post enc C.prog fn false true false false W args _ E4
 refine ⟨kt,[],p ++ [],[],p,[],Kt,?_,?_,?_,aI.frame _,fun h => by cases h⟩
 ·rw [List.append_nil,a1,aA]
  exact trodAll_mk1 (shut_bool ahj _)
 ·rw [List.append_nil,a7]
  exact PV aE aI hp br (fun x ar => ⟨Kt.lt x (by simp [ar]),by simpa using Kt.lt x (by simp [ar])⟩)
 ·rw [List.append_nil,ct,bj]
  exact rfl
end Go.Proofs.YtkmbcjnaaokilaaGreatDoor
