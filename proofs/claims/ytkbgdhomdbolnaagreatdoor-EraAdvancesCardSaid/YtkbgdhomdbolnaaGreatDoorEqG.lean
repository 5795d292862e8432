/-
  Two results compare as their parts do.
-/
import Derived.Test.YtkbgdhomdbolnaaGreatDoorMC
namespace Go.Proofs.YtkbgdhomdbolnaaGreatDoor
set_option linter.unusedSimpArgs false
set_option linter.unusedVariables false
open Go.RowKit Go.Maps

end Go.Proofs.YtkbgdhomdbolnaaGreatDoor
