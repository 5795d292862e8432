/-
  More operations that are told by a relation: a place of an array value, bits, shifts, a slice of an array.
-/
import Derived.Test.YtijblpkdfmkcfaaGen
namespace Go.Proofs.Ytijblpkdfmkcfaa
set_option linter.unusedSimpArgs false
set_option linter.unusedVariables false
open Go.RowKit Go.Maps

def bitsI (op : BinOp) (k : IntKind) (x y : Int) : Int :=
  match op with
  | .and => k.wrap (BitVec.ofInt k.bits x &&& BitVec.ofInt k.bits y).toNat
  | .or => k.wrap (BitVec.ofInt k.bits x ||| BitVec.ofInt k.bits y).toNat
  | .xor => k.wrap (BitVec.ofInt k.bits x ^^^ BitVec.ofInt k.bits y).toNat
  | .andNot => k.wrap (BitVec.ofInt k.bits x &&& ~~~BitVec.ofInt k.bits y).toNat
  | _ => 0
theorem gen_bits {op : BinOp} {t t2 : TypeId} {x y : Operand} {k : IntKind} {p q : Int} (hop : op = .and ∨ op = .or ∨ op = .xor ∨ op = .andNot) : GenRel (.binOp op t x y t2) [x, y] [.v (.int k p), .v (.int k q)] (.v (.int k (bitsI op k p q))) := gen_val fun o a w H ho hS hA => by
  cases hA with
  | cons hx hA =>
    cases hA with
    | cons hy hA =>
      generalize hq : a.eval x = u at hx
      generalize hqj : a.eval y = v at hy
      cases hx; cases hy
      refine ⟨_, ?_, .v rfl⟩
      rcases hop with rfl | rfl | rfl | rfl <;> simp [execOp, ho, hq, hqj, eqGuard, binOp, Op.intBits, bitsI]
end Go.Proofs.Ytijblpkdfmkcfaa
