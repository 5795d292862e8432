/-
  Layer 12 by shadows: the reference's Take; the law's rest.
  The shadow code of functions, written by a program; each is what the translator makes of the function.
-/
import Derived.Test.YtkmbcjnaaokilaaGreatDoorK12q
import Derived.Test.YtkmbcjnaaokilaaGreatDoorMC
namespace Go.Proofs.YtkmbcjnaaokilaaGreatDoor
set_option linter.unusedSimpArgs false
set_option linter.unusedVariables false
open Go.RowKit Go.Maps
def takeI (U : Nat → Bool) (B f : Nat) : Int := match takeU U B f with
 | some b => (b : Int)
 | none => -1
structure RestA (l : LayV) (a b : List WordV) : Prop where
 len : a.length = b.length
 w : ∀ (i : Nat) x y,a[i]? = some x → b[i]? = some y → y.ver = x.ver ∧ y.ref = x.ref ∧ (y.val = x.val ∨ (bitP l 0 ≤ (i : Int) ∧ (i : Int) ≤ bitP l (l.blocks.toNat - 1)))
end Go.Proofs.YtkmbcjnaaokilaaGreatDoor
namespace Go.Proofs.YtkmbcjnaaokilaaGreatDoor
open Go.RowKit

end Go.Proofs.YtkmbcjnaaokilaaGreatDoor
