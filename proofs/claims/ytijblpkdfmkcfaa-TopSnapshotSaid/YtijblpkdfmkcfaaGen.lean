/-
  Operations that are told by a relation: a method behind an interface value, a type assertion, a place of an array value, bits.
-/
import Derived.Test.YtijblpkdfmkcfaaMC
import Derived.WideLaws
namespace Go.Proofs.Ytijblpkdfmkcfaa
set_option linter.unusedSimpArgs false
set_option linter.unusedVariables false
open Go.RowKit Go.Maps

theorem gen_val {op : Op} {xs : List Operand} {l : List Sh} {r : Sh} (h : ∀ (o : Oper) (a : Act) (w : World) (H : Hp), o.op = op → Sub H w → RepL H E0 l (xs.map a.eval) → ∃ v, (execOp a.eval o).run Try.prog w = .ok (.value v) w ∧ Rep H E0 r v) : GenRel op xs l r := by
  intro o a w H ho h1 hA
  obtain ⟨v, e, hr⟩ := h o a w H ho h1 hA
  unfold Oper.wp
  rw [e]
  exact ⟨v, H, rfl, Grow.refl h1, hr⟩
section
variable {P : Program}
end
end Go.Proofs.Ytijblpkdfmkcfaa
