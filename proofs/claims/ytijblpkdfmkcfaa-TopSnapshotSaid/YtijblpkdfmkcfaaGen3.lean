/-
  One more operation that is told by a relation: a place of an array value of more than one cell.
-/
import Derived.Test.YtijblpkdfmkcfaaGen2
namespace Go.Proofs.Ytijblpkdfmkcfaa
set_option linter.unusedSimpArgs false
set_option linter.unusedVariables false
open Go.RowKit Go.Maps

theorem gen_indexk {t e : TypeId} {x j : Operand} {N m : Nat} {k : IntKind} {n : Int} {cs : List Sh} {i : TypeInfo} (hu : Try.prog.underlying t = some (.array N e)) (hi : Try.prog.info? e = some i) (h1 : i.size = m)
    (ha : ∀ w, (isAgg e).run Try.prog w = .ok true w) (h0 : 0 ≤ n) (hn : n < N) : GenRel (.index t x j) [x, j] [.agg cs, .v (.int k n)] (.agg ((cs.drop (n.toNat * m)).take m)) := gen_val fun o a w H ho hS hA => by
  cases hA with
  | cons hx hA =>
    cases hA with
    | cons hj hA =>
      generalize hq : a.eval x = q at hx
      generalize hqj : a.eval j = qj at hj
      cases hj
      cases hx with
      | agg hL hone =>
        rename_i vs
        refine ⟨.agg ((vs.drop (n.toNat * m)).take m).toArray, ?_, .agg ((hL.drop _).take _) ?_⟩
        · simp [execOp, ho, hq, hqj, Instr.index, asIntOf, run_underlying hu, h0, hn, part, run_sizeOf hi, h1, ha, List.extract_eq_take_drop]
        · exact List.all_eq_true.2 fun s hs => List.all_eq_true.1 hone s (List.mem_of_mem_drop (List.mem_of_mem_take hs))
end Go.Proofs.Ytijblpkdfmkcfaa
