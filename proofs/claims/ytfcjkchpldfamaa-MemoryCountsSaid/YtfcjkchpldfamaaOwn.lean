/-
  Two closed facts on the program that every row's frame asks for.
-/
import Derived.Test.YtfcjkchpldfamaaClose
import Derived.Test.YtfcjkchpldfamaaRows
namespace Go.Proofs.Ytfcjkchpldfamaa
set_option linter.unusedSimpArgs false
set_option linter.unusedVariables false
open Go.ChangeShapes Go.WideShapes Go.ChangeAt Go.RowKit Go.Deep

theorem own : ownKnob Try.prog.godebug = Option.none := by kernel_rfl
theorem laidOut : laidOutB Try.prog = true := by kernel_rfl
end Go.Proofs.Ytfcjkchpldfamaa
