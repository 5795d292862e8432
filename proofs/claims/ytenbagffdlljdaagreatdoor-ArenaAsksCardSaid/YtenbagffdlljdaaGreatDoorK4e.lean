/-
  Layer 4 by shadows: the example, the memory that a case describes.
-/
import Derived.Test.YtenbagffdlljdaaGreatDoorMK5
namespace Go.Proofs.YtenbagffdlljdaaGreatDoor
set_option linter.unusedSimpArgs false
set_option linter.unusedVariables false
open Go.RowKit Go.Maps
def w2 (v : Int) : WordV := ⟨v,0,0⟩
def x0 : MemM := (mnewM 2 [w2 0,w2 0]).1
def x1 : MemM := (mstoreM x0 1 0 (w2 7) false).1
def x2 : MemM := (mstoreM x1 1 1 (w2 1) true).1
end Go.Proofs.YtenbagffdlljdaaGreatDoor
