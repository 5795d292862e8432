/-
  The frame of a law's tied card, where the row lists the table of sizes.
-/
import Derived.Test.YtkmbcjnaaokilaaGreatDoorCards
import Derived.Test.YtkmbcjnaaokilaaGreatDoorTie
import Derived.Deep.DeepHandedRow
import Derived.Lib.LaidTab
import Derived.Test.YtkmbcjnaaokilaaGreatDoorMC
namespace Go.Proofs.YtkmbcjnaaokilaaGreatDoor
set_option linter.unusedSimpArgs false
set_option linter.unusedVariables false
open Go.ChangeShapes Go.WideShapes Go.ChangeAt Go.RowKit Go.Deep

abbrev laidS : List (String × DataW Unit) := [("simulcast/layout.sizes",Rows.laid_simulcast_layout_sizes)]
theorem gNamed : Tryz.prog.globalNamed "simulcast/layout.sizes" = some 0 := by kernel_rfl
theorem gOk_laid {W : World} (h : laidMetH Tryz.prog laidS W) : GOk (allHp W) := by
 have ht : Lib.TabIs Tryz.prog W "simulcast/layout.sizes" .i64 [8,8,8,1,104,0,32] :=
  Lib.tabIs_of_head (rest := []) (t := 147) gNamed (by kernel_rfl) Tryz.underlying147 Tryz.underlying3 (by kernel_rfl) (by kernel_rfl) h
 have hc := fun i hi => ht.cell gNamed i hi
 intro p hp
 rw [List.mem_singleton.1 hp]
 obtain ⟨cells,t,fr,_,h1,h2⟩ := cell_block (hc 0 (by decide))
 refine ⟨cells,t,fr,h1,fun j u hu => ?_⟩
 have hj : j < 7 := (List.getElem?_eq_some_iff.1 hu).1
 obtain ⟨cells',t',fr',_,k1,k2⟩ := cell_block (hc j hj)
 have e := Option.some.inj (h1.symm.trans k1)
 injection e with e1 _ _
 rw [e1,k2]
 match j,hj with
 | 0,_ => exact hu
 | 1,_ => exact hu
 | 2,_ => exact hu
 | 3,_ => exact hu
 | 4,_ => exact hu
 | 5,_ => exact hu
 | 6,_ => exact hu
noncomputable def laidWorld (os : Os) : World :=
 { World.holding Tryz.prog os ⟨#[],#[],[]⟩ with heap := (World.holding Tryz.prog os ⟨#[],#[],[]⟩).heap.modify 0 fun
   | .cells _ t frozen => .cells #[.int .i64 8,.int .i64 8,.int .i64 8,.int .i64 1,.int .i64 104,.int .i64 0,.int .i64 32] t frozen
   | o => o }
variable {H : Type} {enc : TypeId × Value → H}
theorem lifted_row_of {C : Checked} {os : Os} {f : FuncId} {fn : Func} {s : ChangeSpec} {F : Stop.Interp} {conds : List PathCond} {tb : TypeId} {laid : List (String × DataW Unit)}
  (own : ownKnob C.prog.godebug = none) (started : os.Started) (noInit : C.prog.inits.idxOf? f = none) (hfn : C.prog.funcs[f]? = some fn)
  (witness : ∃ (w : World) (tape : Tape) (i : Input),w.os = os ∧ (w.forCall tape i).Shaped C.prog ∧ i.vars = [] ∧ Input.okWide C.prog (w.forCall tape i) .any w.heap.size f i ∧
   (OpenSpec.ofChange s).preRow enc C.prog fn conds false laid (w.forCall tape i).memory i.args ∧ ({} : Assume).holds C.prog (lone (Frame.enter C.prog f i.args .normal) [] (w.forCall tape i)))
  (hl : laidOutB C.prog = true) (hp : (fn.params.toList.all fun t => C.prog.readableRec t && decide (t < C.prog.types.size)) = true)
  (hr : fn.resultTypes = #[tb]) (htb : C.prog.underlying tb = some .bool) (hv : s.vars = [])
  (hs : ∀ ds,ds.length = fn.params.toList.length → (s.fn H ds).results = [.lit (.bool true)] ∧ (s.fn H ds).args = ds ∧ (s.fn H ds).vars = [])
  (walk : ∀ (W : World) (base : Nat) (args : Array Value) (ds : List (DataW H)) (p : List MemPlace),
   (∀ (j : Nat) t v,fn.params[j]? = some t → args[j]? = some v → Value.okWide C.prog W .any base t v) →
   DataW.TrodAll enc C.prog W 0 (fun _ => true) true fn.params.toList args.toList ds p → laidMetH C.prog laid W → RetV C.prog f args W (.bool true)) :
  ReturnsInHanded {} C os f .any ((OpenSpec.ofChange s).preRow enc C.prog fn conds false laid) (((OpenSpec.ofChange s).at F).post enc C.prog fn false true false false) := by
 refine returnsInHanded_of_row (C := C) (s := OpenSpec.ofChange s) own started noInit hfn witness ?_
 intro W base args ds gs before hval hW _ _ _ hL _ _
 change DataW.Whole enc C.prog fn.params.toList s.vars false W args.toList ds gs before at hW
 have hW' := hW
 obtain ⟨p,q,hA,hV,rfl,hfz,hnd⟩ := hW
 rw [hv] at hV
 obtain ⟨rfl,rfl⟩ := trodVars_none hV
 have hlen := trodAll_len hA
 obtain ⟨e1,e2,e3⟩ := hs ds hlen
 refine (walk W base args ds p hval hA hL).mono fun e W' ⟨he,hb⟩ => ?_
 subst he
 refine ⟨_,rfl,?_⟩
 show s.post enc C.prog fn false true false false W args _ W'
 refine ⟨ds,[],p ++ [],[],p,[],hW',?_,?_,?_,hb.frame _,fun h => by cases h⟩
 ·rw [List.append_nil,e1,hr]
  exact trodAll_mk1 (shut_bool htb _)
 ·rw [List.append_nil,e2]
  exact args_stay hl hb hp hA (fun x hx => ⟨hW'.lt x (by simp [hx]),by simpa using hW'.lt x (by simp [hx])⟩)
 ·rw [List.append_nil,e3,hv]
  exact rfl
end Go.Proofs.YtkmbcjnaaokilaaGreatDoor
