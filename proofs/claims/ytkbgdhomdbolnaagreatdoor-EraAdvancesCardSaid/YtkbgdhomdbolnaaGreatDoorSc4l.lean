/-
  The shadow code of functions, written by a program; each is what the translator makes of the function.
-/
import Derived.Test.YtkbgdhomdbolnaaGreatDoorMC
namespace Go.Proofs.YtkbgdhomdbolnaaGreatDoor
open Go.RowKit

end Go.Proofs.YtkbgdhomdbolnaaGreatDoor
