/-
  The shadow code of functions, written by a program; each is what the translator makes of the function.
-/
import Derived.Test.YtkkoeejhglbaeaaGreatDoorMC
namespace Go.Proofs.YtkkoeejhglbaeaaGreatDoor
open Go.RowKit

end Go.Proofs.YtkkoeejhglbaeaaGreatDoor
