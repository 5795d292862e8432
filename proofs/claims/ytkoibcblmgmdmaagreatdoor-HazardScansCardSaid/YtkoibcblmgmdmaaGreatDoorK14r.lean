/-
  Layer 14, plain law: threads that run alone, and what their codes are at the end.
-/
import Derived.Test.YtkoibcblmgmdmaaGreatDoorK14q
namespace Go.Proofs.YtkoibcblmgmdmaaGreatDoor
set_option linter.unusedSimpArgs false
set_option linter.unusedVariables false
open Go.RowKit Go.Maps
theorem step_stopped {d : Nat → DoH} {w : WorldM hz} {s s' : Nat → HzV} {p : PickV} (hk : p.kind = 0) (h : HzStep w s p s') (hst : w.stopped = List.replicate 3 false) : (stepM w p).1.stopped = List.replicate 3 false := by
  cases h with
  | idle e hs ht => rw [e]; exact hst
  | halt k hs ht hm => omega
  | go m y hm k ht hy hl hp did hT hst2 hW hs => rw [hst2]; exact hst
end Go.Proofs.YtkoibcblmgmdmaaGreatDoor
