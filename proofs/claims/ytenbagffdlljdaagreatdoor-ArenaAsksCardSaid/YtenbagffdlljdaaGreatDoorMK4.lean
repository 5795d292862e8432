/-
  The arguments of layer 4's laws.
  The arguments of layer 12's laws.
  The frame of a law's tied card, where the row lists the table of sizes.
-/
import Derived.Test.YtenbagffdlljdaaGreatDoorMC
import Derived.Test.YtenbagffdlljdaaGreatDoorK4e
import Derived.Test.YtenbagffdlljdaaGreatDoorK12n
import Derived.Test.YtenbagffdlljdaaGreatDoorCards
import Derived.Test.YtenbagffdlljdaaGreatDoorTie
import Derived.Deep.DeepHandedRow
import Derived.Lib.LaidTab
namespace Go.Proofs.YtenbagffdlljdaaGreatDoor
set_option linter.unusedSimpArgs false
set_option linter.unusedVariables false
open Go.ChangeShapes Go.WideShapes Go.ChangeAt Go.RowKit Go.Deep Go.Maps
theorem map_shP {α : Type} {p : Pl} {e : α → List Sh} {Q : α → Prop} (h : ∀ d,OkD p d → ∃ x,shP p d = e x ∧ Q x) : ∀ (xs : List Dt),(∀ x ∈ xs,OkD p x) → ∃ ys : List α,xs.map (fun x => shP p x) = ys.map e ∧ ∀ y ∈ ys,Q y
 | [],_ => ⟨[],rfl,fun y hy => by cases hy⟩
 | x :: xs,hx => by
  obtain ⟨y,h1,h2⟩ := h x (hx x (List.mem_cons_self ..))
  obtain ⟨ys,h3,h4⟩ := map_shP h xs (fun z hz => hx z (List.mem_cons_of_mem _ hz))
  refine ⟨y :: ys,by simp only [List.map_cons,h1,h3],fun z hz => ?_⟩
  rcases List.mem_cons.1 hz with rfl | hz
  ·exact h2
  ·exact h4 z hz
theorem okd_int {k : IntKind} {d : Dt} (h : OkD (.int k) d) : ∃ n,d = .i n ∧ k.min ≤ n ∧ n ≤ k.max := by
 cases d with
 | i n => exact ⟨n,rfl,h⟩
 | _ => exact h.elim
theorem okd_bool {d : Dt} (h : OkD .bool d) : ∃ b,d = .b b := by
 cases d with
 | b b => exact ⟨b,rfl⟩
 | _ => exact h.elim
theorem okd_sl {k : Nat} {e : Pl} {d : Dt} (h : OkD (.sl k e) d) : ∃ xs,d = .l xs ∧ ∀ x ∈ xs,OkD e x := by
 cases d with
 | l xs => exact ⟨xs,rfl,h⟩
 | _ => exact h.elim
theorem okd_cons {p q : Pl} {d : Dt} (h : OkD (.cons p q) d) : ∃ a b,d = .cons a b ∧ OkD p a ∧ OkD q b := by
 cases d with
 | cons a b => exact ⟨a,b,rfl,h.1,h.2⟩
 | _ => exact h.elim
theorem okd_nil {d : Dt} (h : OkD .nil d) : d = .nil := by
 cases d with
 | nil => rfl
 | _ => exact h.elim
def WordIn (w : WordV) : Prop := (-9223372036854775808 ≤ w.val ∧ w.val ≤ 9223372036854775807) ∧ (0 ≤ w.ver ∧ w.ver ≤ 4294967295) ∧ (0 ≤ w.ref ∧ w.ref ≤ 4294967295)
structure ActIn (a : ActM) : Prop where
 op : -9223372036854775808 ≤ a.op ∧ a.op ≤ 9223372036854775807
 place : InLoc a.place
 old : WordIn a.old
 new : WordIn a.new
structure DoIn (d : DoV) : Prop where
 act : ActIn d.act
end Go.Proofs.YtenbagffdlljdaaGreatDoor
namespace Go.Proofs.YtenbagffdlljdaaGreatDoor
set_option linter.unusedSimpArgs false
set_option linter.unusedVariables false
open Go.ChangeShapes Go.WideShapes Go.ChangeAt Go.RowKit Go.Deep Go.Maps
def In64 (n : Int) : Prop := -9223372036854775808 ≤ n ∧ n ≤ 9223372036854775807
abbrev plI3 : Pl := .cons (.int .i64) (.cons (.int .i64) (.cons (.int .i64) .nil))
abbrev plOp : Pl := .cons .bool (.cons (.int .u8) .nil)
abbrev u8 (n : Int) : Sh := .v (.int .u8 n)
structure OpV where
 give : Bool
 n : Int
abbrev eOp (o : OpV) : List Sh := [sB o.give,u8 o.n]
abbrev eOps (l : List OpV) : List Sh := [.sl 2 2 (l.map eOp)]
theorem pl_u8 : planOf Tryz.prog 8 5 = some (.int .u8) := by kernel_rfl
theorem pl_int : planOf Tryz.prog 8 3 = some (.int .i64) := by kernel_rfl
theorem pl_lay : planOf Tryz.prog 8 25 = some plI3 := by kernel_rfl
theorem pl_ops12 : planOf Tryz.prog 8 22 = some (.sl 2 plOp) := by kernel_rfl
theorem okd_lay {d : Dt} (h : OkD plI3 d) : ∃ l : LayV,shP plI3 d = eLay l ∧ In64 l.threads ∧ In64 l.cells ∧ In64 l.blocks := by
 obtain ⟨a,d,rfl,ha,h⟩ := okd_cons h
 obtain ⟨b,d,rfl,hb,h⟩ := okd_cons h
 obtain ⟨c,d,rfl,hc,h⟩ := okd_cons h
 obtain rfl := okd_nil h
 obtain ⟨a,rfl,ha⟩ := okd_int ha
 obtain ⟨b,rfl,hb⟩ := okd_int hb
 obtain ⟨c,rfl,hc⟩ := okd_int hc
 exact ⟨⟨a,b,c⟩,rfl,ha,hb,hc⟩
theorem okd_op12 {d : Dt} (h : OkD plOp d) : ∃ x,shP plOp d = eOp x ∧ 0 ≤ x.n ∧ x.n ≤ 255 := by
 obtain ⟨_,_,rfl,h1,h⟩ := okd_cons h
 obtain ⟨_,_,rfl,h2,h⟩ := okd_cons h
 obtain rfl := okd_nil h
 obtain ⟨a,rfl⟩ := okd_bool h1
 obtain ⟨b,rfl,b1⟩ := okd_int h2
 exact ⟨⟨a,b⟩,rfl,b1⟩
theorem okd_ops12 {d : Dt} (h : OkD (.sl 2 plOp) d) : ∃ l : List OpV,shP (.sl 2 plOp) d = eOps l ∧ ∀ x ∈ l,0 ≤ x.n ∧ x.n ≤ 255 := by
 obtain ⟨xs,rfl,b1⟩ := okd_sl h
 obtain ⟨ws,e2,b2⟩ := map_shP (fun d h => okd_op12 h) xs b1
 exact ⟨ws,by show [Sh.sl 2 2 (xs.map fun x => shP plOp x)] = _; rw [e2],b2⟩
section
variable {H : Type} {enc : TypeId × Value → H} {P : Program} {W : World} {base : Nat} {spare : Nat → Bool} {held : Bool}
end
end Go.Proofs.YtenbagffdlljdaaGreatDoor
namespace Go.Proofs.YtenbagffdlljdaaGreatDoor
set_option linter.unusedSimpArgs false
set_option linter.unusedVariables false
open Go.ChangeShapes Go.WideShapes Go.ChangeAt Go.RowKit Go.Deep

abbrev laidS : List (String × DataW Unit) := [("simulcast/layout.sizes",Rows.laid_simulcast_layout_sizes)]
theorem gNamed : Tryz.prog.globalNamed "simulcast/layout.sizes" = some 0 := by kernel_rfl
theorem gOk_laid {W : World} (h : laidMetH Tryz.prog laidS W) : GOk (allHp W) := by
 have ht : Lib.TabIs Tryz.prog W "simulcast/layout.sizes" .i64 [8,8,8,1,104,0,32] :=
  Lib.tabIs_of_head (rest := []) (t := 148) gNamed (by kernel_rfl) Tryz.underlying148 Tryz.underlying3 (by kernel_rfl) (by kernel_rfl) h
 have hc := fun i hi => ht.cell gNamed i hi
 intro p hp
 rw [List.mem_singleton.1 hp]
 obtain ⟨cells,t,fr,_,h1,h2⟩ := cell_block (hc 0 (by decide))
 refine ⟨cells,t,fr,h1,fun j u hu => ?_⟩
 have hj : j < 7 := (List.getElem?_eq_some_iff.1 hu).1
 obtain ⟨cells',t',fr',_,k1,k2⟩ := cell_block (hc j hj)
 have e := Option.some.inj (h1.symm.trans k1)
 injection e with e1 _ _
 rw [e1,k2]
 match j,hj with
 | 0,_ => exact hu
 | 1,_ => exact hu
 | 2,_ => exact hu
 | 3,_ => exact hu
 | 4,_ => exact hu
 | 5,_ => exact hu
 | 6,_ => exact hu
noncomputable def laidWorld (os : Os) : World :=
 { World.holding Tryz.prog os ⟨#[],#[],[]⟩ with heap := (World.holding Tryz.prog os ⟨#[],#[],[]⟩).heap.modify 0 fun
   | .cells _ t frozen => .cells #[.int .i64 8,.int .i64 8,.int .i64 8,.int .i64 1,.int .i64 104,.int .i64 0,.int .i64 32] t frozen
   | o => o }
variable {H : Type} {enc : TypeId × Value → H}
theorem lifted_row_of {C : Checked} {os : Os} {f : FuncId} {fn : Func} {s : ChangeSpec} {F : Stop.Interp} {conds : List PathCond} {tb : TypeId} {laid : List (String × DataW Unit)}
  (own : ownKnob C.prog.godebug = none) (started : os.Started) (noInit : C.prog.inits.idxOf? f = none) (hfn : C.prog.funcs[f]? = some fn)
  (witness : ∃ (w : World) (tape : Tape) (i : Input),w.os = os ∧ (w.forCall tape i).Shaped C.prog ∧ i.vars = [] ∧ Input.okWide C.prog (w.forCall tape i) .any w.heap.size f i ∧
   (OpenSpec.ofChange s).preRow enc C.prog fn conds false laid (w.forCall tape i).memory i.args ∧ ({} : Assume).holds C.prog (lone (Frame.enter C.prog f i.args .normal) [] (w.forCall tape i)))
  (hl : laidOutB C.prog = true) (hp : (fn.params.toList.all fun t => C.prog.readableRec t && decide (t < C.prog.types.size)) = true)
  (hr : fn.resultTypes = #[tb]) (htb : C.prog.underlying tb = some .bool) (hv : s.vars = [])
  (hs : ∀ ds,ds.length = fn.params.toList.length → (s.fn H ds).results = [.lit (.bool true)] ∧ (s.fn H ds).args = ds ∧ (s.fn H ds).vars = [])
  (walk : ∀ (W : World) (base : Nat) (args : Array Value) (ds : List (DataW H)) (p : List MemPlace),
   (∀ (j : Nat) t v,fn.params[j]? = some t → args[j]? = some v → Value.okWide C.prog W .any base t v) →
   DataW.TrodAll enc C.prog W 0 (fun _ => true) true fn.params.toList args.toList ds p → laidMetH C.prog laid W → RetV C.prog f args W (.bool true)) :
  ReturnsInHanded {} C os f .any ((OpenSpec.ofChange s).preRow enc C.prog fn conds false laid) (((OpenSpec.ofChange s).at F).post enc C.prog fn false true false false) := by
 refine returnsInHanded_of_row (C := C) (s := OpenSpec.ofChange s) own started noInit hfn witness ?_
 intro W base args ds gs before hval hW _ _ _ hL _ _
 change DataW.Whole enc C.prog fn.params.toList s.vars false W args.toList ds gs before at hW
 have hW' := hW
 obtain ⟨p,q,hA,hV,rfl,hfz,hnd⟩ := hW
 rw [hv] at hV
 obtain ⟨rfl,rfl⟩ := trodVars_none hV
 have hlen := trodAll_len hA
 obtain ⟨e1,e2,e3⟩ := hs ds hlen
 refine (walk W base args ds p hval hA hL).mono fun e W' ⟨he,hb⟩ => ?_
 subst he
 refine ⟨_,rfl,?_⟩
 show s.post enc C.prog fn false true false false W args _ W'
 refine ⟨ds,[],p ++ [],[],p,[],hW',?_,?_,?_,hb.frame _,fun h => by cases h⟩
 ·rw [List.append_nil,e1,hr]
  exact trodAll_mk1 (shut_bool htb _)
 ·rw [List.append_nil,e2]
  exact args_stay hl hb hp hA (fun x hx => ⟨hW'.lt x (by simp [hx]),by simpa using hW'.lt x (by simp [hx])⟩)
 ·rw [List.append_nil,e3,hv]
  exact rfl
end Go.Proofs.YtenbagffdlljdaaGreatDoor
