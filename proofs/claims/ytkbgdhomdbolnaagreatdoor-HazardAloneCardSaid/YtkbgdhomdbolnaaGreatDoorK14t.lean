/-
  Layer 14 by shadows: the limit of the laws' inputs.
-/
import Derived.Test.YtkbgdhomdbolnaaGreatDoorArg14
import Derived.Test.YtkbgdhomdbolnaaGreatDoorSc14l
import Derived.Test.YtkbgdhomdbolnaaGreatDoorMC
namespace Go.Proofs.YtkbgdhomdbolnaaGreatDoor
set_option linter.unusedSimpArgs false
set_option linter.unusedVariables false
open Go.RowKit Go.Maps

def great14 (r : Run14) : Bool := decide ((120 : Int) < (r.picks.length : Int))
theorem ok_l14Great (r : Run14) : Ok 22 [.agg (cRun14 r)] (sB (great14 r)) := by
  refine ok_of_tr Tryz.func22 tr_l14Great rfl ?_
  unfold great14
  unfold evFn sc_l14Great rv_l14Great
  refine eS fun K1 hn1 hr1 he1 => ?_
  refine eO fun K2 hk2 => ?_
  refine tL0 ?_
  refine hk2 _ ?_
  refine hn1 (some ([1], none)) _ ?_
  refine eS fun K3 hn3 hr3 he3 => ?_
  refine eO fun K4 hk4 => ?_
  refine tC0 2 ?_
  refine tC0 2 ?_
  refine tL0 ?_
  refine hk4 _ ?_
  refine hn3 (some ([2], none)) _ ?_
  exact sf0
end Go.Proofs.YtkbgdhomdbolnaaGreatDoor
