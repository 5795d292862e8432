/-
  The shadow machine: a third reading of code, where a slice that is written down is a row of one's own.
-/
import Derived.Test.YtijblpkdfmkcfaaMC
namespace Go.Proofs.Ytijblpkdfmkcfaa
set_option linter.unusedSimpArgs false
set_option linter.unusedVariables false
open Go.RowKit Go.Maps

def toBso (P : Program) (hP : P = Try.prog) : (op : Op) → {so : SOp // OpM op so} → Option {so : SOp // OpM op so}
  | .buildSlice t n parts, ⟨.bsl k xs, h⟩ => match undr P hP t with
    | some ⟨.slice e, hu⟩ => some ⟨.bso k xs e, by
        cases h with
        | bsl h1 h2 h3 h4 h5 h6 h7 =>
          rw [h1] at hu
          cases hu
          exact .bso h1 h2 h3 h4 h5 h6 h7⟩
    | _ => none
  | _, so => some so
def trOperB (P : Program) (hP : P = Try.prog) (N : Nat) (ops : Array Oper) (o : Oper) : Option {g : GOp // GM N ops o g} :=
  match (trOp P hP o.op).bind (toBso P hP o.op), hg : trGuard ops o.guard with
  | some so, some gd => if h : ltB N o.dst = true then some ⟨⟨o.dst, gd, so.1⟩, rfl, so.2, fun t h' => (by rw [h'] at h; simpa [ltB] using h), trGuard_spec hg⟩ else none
  | _, _ => none
def trOpersB (P : Program) (hP : P = Try.prog) (N : Nat) (ops : Array Oper) : (l : List Oper) → Option {gl : List GOp // GMs N ops l gl}
  | [] => some ⟨[], .nil⟩
  | o :: l => match trOperB P hP N ops o, trOpersB P hP N ops l with
    | some g, some gl => some ⟨g.1 :: gl.1, .cons g.2 gl.2⟩
    | _, _ => none
end Go.Proofs.Ytijblpkdfmkcfaa
