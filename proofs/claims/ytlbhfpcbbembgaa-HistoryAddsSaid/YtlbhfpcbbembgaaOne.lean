/-
  What the proofs of all rows of this seat share; the arguments of the laws on histories, opened.
-/
import Derived.Test.YtlbhfpcbbembgaaLaw3
import Derived.Test.YtlbhfpcbbembgaaClose
import Derived.Test.YtlbhfpcbbembgaaRows
namespace Go.Proofs.Ytlbhfpcbbembgaa
open Go.ChangeShapes Go.WideShapes Go.ChangeAt Go.RowKit

def oneK : List CellK := [.int .i64, .int .u32, .int .u32, .int .i64, .int .u8, .int .u8]
theorem oneR_of {W : World} (cs : List Value) (h : Fits oneK cs) : ∃ x, OneR (allHp W) cs x := by
  obtain ⟨a, _, rfl, _, _, h⟩ := h.int
  obtain ⟨b, _, rfl, _, _, h⟩ := h.int
  obtain ⟨c, _, rfl, _, _, h⟩ := h.int
  obtain ⟨d, _, rfl, _, _, h⟩ := h.int
  obtain ⟨e, _, rfl, l1, u1, h⟩ := h.int
  obtain ⟨f, _, rfl, l2, u2, h⟩ := h.int
  cases h.nil
  exact ⟨⟨a, b, c, d, e, f⟩, rfl, l1, u1, l2, u2⟩

theorem own : ownKnob Try.prog.godebug = Option.none := by kernel_rfl
theorem laidOut : laidOutB Try.prog = true := by kernel_rfl

end Go.Proofs.Ytlbhfpcbbembgaa
