/-
  The shadow machine: one more reading of code, where in a drawn region with no append a slice that is written down behind the front is a row of one's own.
-/
import Derived.Test.YtijblpkdfmkcfaaShR
namespace Go.Proofs.Ytijblpkdfmkcfaa
set_option linter.unusedSimpArgs false
set_option linter.unusedVariables false
open Go.RowKit Go.Maps

def noApp (ops : Array Oper) : Bool := ops.all fun o => match o.op with
  | .call ⟨.builtin .append, _, _⟩ => false
  | _ => true
def trDrwX (P : Program) (hP : P = Try.prog) (N : Nat) (id : Nat) (ops : Array Oper) : Option {sc : SC // CM N (.region id ops true) sc} :=
  match trOpersB P hP N ops ops.toList with
  | some gl => match (List.range (ops.size + 1)).find? (drawAt N ops gl.1) with
    | some n => if h : drawAt N ops gl.1 n = true then some ⟨.drw n gl.1, by
        unfold drawAt at h
        simp only [Bool.and_eq_true] at h
        exact .drw gl.2 h.1.1.1 h.1.1.2 h.1.2 h.2⟩ else none
    | none => none
  | none => none
def trCodeX (P : Program) (hP : P = Try.prog) (N : Nat) : (c : Code) → Option {sc : SC // CM N c sc}
  | .region id ops true => if noApp ops = true then (match trDrwX P hP N id ops with
    | some x => some x
    | none => trCode P hP N (.region id ops true)) else trCode P hP N (.region id ops true)
  | .seq a b => match trCodeX P hP N a, trCodeX P hP N b with
    | some x, some y => some ⟨.seq x.1 y.1, .seq x.2 y.2⟩
    | _, _ => none
  | .cond c a b => match trCodeX P hP N a, trCodeX P hP N b with
    | some x, some y => some ⟨.cond c x.1 y.1, .cond x.2 y.2⟩
    | _, _ => none
  | .block id a => match trCodeX P hP N a with
    | some x => some ⟨.block id x.1, .block x.2⟩
    | none => none
  | .loop a => match trCodeX P hP N a with
    | some x => some ⟨.loop x.1, .loop x.2⟩
    | none => none
  | c => trCode P hP N c
def trFnX (P : Program) (hP : P = Try.prog) (fn : Func) : Option (SC × List RV) :=
  match fn.body with
  | none => none
  | some c => match trCodeX P hP fn.ntmps c, trRes P hP fn.results.toList with
    | some x, some y => some (x.1, y.1)
    | _, _ => none
/-- A function is told by its shadow code. -/
theorem ok_of_trX {f : FuncId} {fn : Func} {sc : SC} {rvs : List RV} {args : List Sh} {r : Sh} (hf : Try.prog.funcs[f]? = some fn) (ht : trFnX Try.prog rfl fn = some (sc, rvs)) (hn : Nat.ble args.length fn.ntmps = true) (h : evFn sc rvs args r) : Ok f args r := by
  unfold trFnX at ht
  split at ht
  · cases ht
  · rename_i c hb
    split at ht
    · rename_i x y _ _
      cases ht
      exact ok_of_ev hf hb mixed x.2 y.2 (Nat.le_of_ble_eq_true hn) h
    · cases ht
end Go.Proofs.Ytijblpkdfmkcfaa
