/-
  The frame of a law's tied card, where the row lists the table of sizes.
-/
import Derived.Test.YtkmbcjnaaokilaaGreatDoorCards
import Derived.Test.YtkmbcjnaaokilaaGreatDoorTie
import Derived.Deep.DeepHandedRow
import Derived.Lib.LaidTab
import Derived.Test.YtkmbcjnaaokilaaGreatDoorMC
namespace Go.Proofs.YtkmbcjnaaokilaaGreatDoor
set_option linter.unusedSimpArgs false
set_option linter.unusedVariables false
open Go.ChangeShapes Go.WideShapes Go.ChangeAt Go.RowKit Go.Deep

abbrev aeF : List (String × DataW Unit) := [("simulcast/layout.sizes",Rows.laid_simulcast_layout_sizes)]
theorem Og : Tryz.prog.globalNamed "simulcast/layout.sizes" = some 0 := by kernel_rfl
theorem aa5 {W : World} (h : laidMetH Tryz.prog aeF W) : uP (pP W) := by
 have aO : Lib.TabIs Tryz.prog W "simulcast/layout.sizes" .i64 [8,8,8,1,104,0,32] :=
  Lib.tabIs_of_head (rest := []) (t := 147) Og (by kernel_rfl) Tryz.underlying147 Tryz.underlying3 (by kernel_rfl) (by kernel_rfl) h
 have az := fun i aq => aO.cell Og i aq
 intro p hp
 rw [List.mem_singleton.1 hp]
 obtain ⟨cells,t,cS,_,af,aj⟩ := u4 (az 0 (by decide))
 refine ⟨cells,t,cS,af,fun j u hu => ?_⟩
 have aM : j < 7 := (List.getElem?_eq_some_iff.1 hu).1
 obtain ⟨Hg,t',HI,_,cy,k2⟩ := u4 (az j aM)
 have e := Option.some.inj (af.symm.trans cy)
 injection e with a2 _ _
 rw [a2,k2]
 match j,aM with
 | 0,_ => exact hu
 | 1,_ => exact hu
 | 2,_ => exact hu
 | 3,_ => exact hu
 | 4,_ => exact hu
 | 5,_ => exact hu
 | 6,_ => exact hu
noncomputable def JG (os : Os) : World :=
 { World.holding Tryz.prog os ⟨#[],#[],[]⟩ with heap := (World.holding Tryz.prog os ⟨#[],#[],[]⟩).heap.modify 0 fun
   | .cells _ t frozen => .cells #[.int .i64 8,.int .i64 8,.int .i64 8,.int .i64 1,.int .i64 104,.int .i64 0,.int .i64 32] t frozen
   | o => o }
variable {H : Type} {enc : TypeId × Value → H}
theorem aeJ {C : Checked} {os : Os} {f : FuncId} {fn : Func} {s : ChangeSpec} {F : Stop.Interp} {conds : List PathCond} {tb : TypeId} {laid : List (String × DataW Unit)}
  (own : ownKnob C.prog.godebug = none) (started : os.Started) (afm : C.prog.inits.idxOf? f = none) (yL : C.prog.funcs[f]? = some fn)
  (witness : ∃ (w : World) (tape : Tape) (i : Input),w.os = os ∧ (w.forCall tape i).Shaped C.prog ∧ i.vars = [] ∧ Input.okWide C.prog (w.forCall tape i) .any w.heap.size f i ∧
   (OpenSpec.ofChange s).preRow enc C.prog fn conds false laid (w.forCall tape i).memory i.args ∧ ({} : Assume).holds C.prog (lone (Frame.enter C.prog f i.args .normal) [] (w.forCall tape i)))
  (aF : laidOutB C.prog = true) (hp : (fn.params.toList.all fun t => C.prog.readableRec t && decide (t < C.prog.types.size)) = true)
  (ax : fn.resultTypes = #[tb]) (adX : C.prog.underlying tb = some .bool) (bj : s.vars = [])
  (ao : ∀ ky,ky.length = fn.params.toList.length → (s.fn H ky).results = [.lit (.bool true)] ∧ (s.fn H ky).args = ky ∧ (s.fn H ky).vars = [])
  (walk : ∀ (W : World) (base : Nat) (args : Array Value) (ky : List (DataW H)) (p : List MemPlace),
   (∀ (j : Nat) t v,fn.params[j]? = some t → args[j]? = some v → Value.okWide C.prog W .any base t v) →
   DataW.TrodAll enc C.prog W 0 (fun _ => true) true fn.params.toList args.toList ky p → laidMetH C.prog laid W → uX C.prog f args W (.bool true)) :
  ReturnsInHanded {} C os f .any ((OpenSpec.ofChange s).preRow enc C.prog fn conds false laid) (((OpenSpec.ofChange s).at F).post enc C.prog fn false true false false) := by
 refine returnsInHanded_of_row (C := C) (s := OpenSpec.ofChange s) own started afm yL witness ?_
 intro W base args ky gs before pn mD _ _ _ ej _ _
 change DataW.Whole enc C.prog fn.params.toList s.vars false W args.toList ky gs before at mD
 have Ii := mD
 obtain ⟨p,q,br,e9,rfl,am1,En⟩ := mD
 rw [bj] at e9
 obtain ⟨rfl,rfl⟩ := trodVars_none e9
 have hlen := Um br
 obtain ⟨a2,a8,cg⟩ := ao ky hlen
 refine (walk W base args ky p pn br ej).mono fun e Dp ⟨he,aJ⟩ => ?_
 subst he
 refine ⟨_,rfl,?_⟩
 show s.post enc C.prog fn false true false false W args _ Dp
 refine ⟨ky,[],p ++ [],[],p,[],Ii,?_,?_,?_,aJ.frame _,fun h => by cases h⟩
 ·rw [List.append_nil,a2,ax]
  exact trodAll_mk1 (shut_bool adX _)
 ·rw [List.append_nil,a8]
  exact M5 aF aJ hp br (fun x ar => ⟨Ii.lt x (by simp [ar]),by simpa using Ii.lt x (by simp [ar])⟩)
 ·rw [List.append_nil,cg,bj]
  exact rfl
end Go.Proofs.YtkmbcjnaaokilaaGreatDoor
