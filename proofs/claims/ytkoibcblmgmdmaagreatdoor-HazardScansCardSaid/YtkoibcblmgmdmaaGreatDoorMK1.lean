/-
  Layer 14 by shadows: the limit of the laws' inputs.
  The shadow machine: a third reading of code, where a slice that is written down is a row of one's own.
-/
import Derived.Test.YtkoibcblmgmdmaaGreatDoorMK3
import Derived.Test.YtkoibcblmgmdmaaGreatDoorSc14l
import Derived.Test.YtkoibcblmgmdmaaGreatDoorMC
namespace Go.Proofs.YtkoibcblmgmdmaaGreatDoor
set_option linter.unusedSimpArgs false
set_option linter.unusedVariables false
open Go.RowKit Go.Maps
def great14 (r : Run14) : Bool := decide ((120 : Int) < (r.picks.length : Int))
theorem ok_l14Great (r : Run14) : Ok 11 [.agg (cRun14 r)] (sB (great14 r)) := by
  refine ok_of_tr Tryz.func11 tr_l14Great rfl ?_
  unfold great14
  unfold evFn sc_l14Great rv_l14Great
  refine eS fun _ hn1 _ _ => ?_;refine eO fun _ hk2 => ?_;refine tL0 ?_;refine hk2 _ ?_;refine hn1 (some ([1], none)) _ ?_;refine eS fun _ hn3 _ _ => ?_;refine eO fun _ hk4 => ?_;refine tC0 2 ?_;refine tC0 2 ?_;refine tL0 ?_;refine hk4 _ ?_;refine hn3 (some ([2], none)) _ ?_
  exact sf0
end Go.Proofs.YtkoibcblmgmdmaaGreatDoor
namespace Go.Proofs.YtkoibcblmgmdmaaGreatDoor
set_option linter.unusedSimpArgs false
set_option linter.unusedVariables false
open Go.RowKit Go.Maps

def toBso (P : Program) (hP : P = Tryz.prog) : (op : Op) → {so : SOp // OpM op so} → Option {so : SOp // OpM op so}
  | .buildSlice t n parts, ⟨.bsl k xs, h⟩ => match undr P hP t with
    | some ⟨.slice e, hu⟩ => some ⟨.bso k xs e, by
        cases h with
        | bsl h1 h2 h3 h4 h5 h6 h7 =>
          rw [h1] at hu
          cases hu
          exact .bso h1 h2 h3 h4 h5 h6 h7⟩
    | _ => none
  | _, so => some so
def trOperB (P : Program) (hP : P = Tryz.prog) (N : Nat) (ops : Array Oper) (o : Oper) : Option {g : GOp // GM N ops o g} :=
  match (trOp P hP o.op).bind (toBso P hP o.op), hg : trGuard ops o.guard with
  | some so, some gd => if h : ltB N o.dst = true then some ⟨⟨o.dst, gd, so.1⟩, rfl, so.2, fun t h' => (by rw [h'] at h; simpa [ltB] using h), trGuard_spec hg⟩ else none
  | _, _ => none
def trOpersB (P : Program) (hP : P = Tryz.prog) (N : Nat) (ops : Array Oper) : (l : List Oper) → Option {gl : List GOp // GMs N ops l gl}
  | [] => some ⟨[], .nil⟩
  | o :: l => match trOperB P hP N ops o, trOpersB P hP N ops l with
    | some g, some gl => some ⟨g.1 :: gl.1, .cons g.2 gl.2⟩
    | _, _ => none
def trCodeB (P : Program) (hP : P = Tryz.prog) (N : Nat) : (c : Code) → Option {sc : SC // CM N c sc}
  | .region id ops false => match trOpersB P hP N ops ops.toList with
    | some gl => some ⟨.ops gl.1, .ops gl.2⟩
    | none => none
  | .seq a b => match trCodeB P hP N a, trCodeB P hP N b with
    | some x, some y => some ⟨.seq x.1 y.1, .seq x.2 y.2⟩
    | _, _ => none
  | .cond c a b => match trCodeB P hP N a, trCodeB P hP N b with
    | some x, some y => some ⟨.cond c x.1 y.1, .cond x.2 y.2⟩
    | _, _ => none
  | .block id a => match trCodeB P hP N a with
    | some x => some ⟨.block id x.1, .block x.2⟩
    | none => none
  | .loop a => match trCodeB P hP N a with
    | some x => some ⟨.loop x.1, .loop x.2⟩
    | none => none
  | c => trCode P hP N c
def trFnB (P : Program) (hP : P = Tryz.prog) (fn : Func) : Option (SC × List RV) :=
  match fn.body with
  | none => none
  | some c => match trCodeB P hP fn.ntmps c, trRes P hP fn.results.toList with
    | some x, some y => some (x.1, y.1)
    | _, _ => none
/-- A function is told by its shadow code. -/
theorem ok_of_trB {f : FuncId} {fn : Func} {sc : SC} {rvs : List RV} {args : List Sh} {r : Sh} (hf : Tryz.prog.funcs[f]? = some fn) (ht : trFnB Tryz.prog rfl fn = some (sc, rvs)) (hn : Nat.ble args.length fn.ntmps = true) (h : evFn sc rvs args r) : Ok f args r := by
  unfold trFnB at ht
  split at ht
  · cases ht
  · rename_i c hb
    split at ht
    · rename_i x y _ _
      cases ht
      exact ok_of_ev hf hb mixed x.2 y.2 (Nat.le_of_ble_eq_true hn) h
    · cases ht
end Go.Proofs.YtkoibcblmgmdmaaGreatDoor
