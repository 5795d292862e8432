/-
  The arguments of layer 13's laws.
-/
import Derived.Test.YtkbgdhomdbolnaaGreatDoorArg4
import Derived.Test.YtkbgdhomdbolnaaGreatDoorK13d
namespace Go.Proofs.YtkbgdhomdbolnaaGreatDoor
set_option linter.unusedSimpArgs false
set_option linter.unusedVariables false
open Go.ChangeShapes Go.WideShapes Go.ChangeAt Go.RowKit Go.Deep Go.Maps

theorem pl_u8 : planOf Tryz.prog 8 5 = some (.int .u8) := by kernel_rfl
abbrev plPick : Pl := .cons (.int .i64) (.cons (.int .i64) (.cons (.int .i64) .nil))
theorem pl_picks : planOf Tryz.prog 8 42 = some (.sl 3 plPick) := by kernel_rfl
theorem okd_pick {d : Dt} (h : OkD plPick d) : ∃ x, shP plPick d = ePick x := by
  obtain ⟨_, _, rfl, h1, h⟩ := okd_cons h
  obtain ⟨_, _, rfl, h2, h⟩ := okd_cons h
  obtain ⟨_, _, rfl, h3, h⟩ := okd_cons h
  obtain rfl := okd_nil h
  obtain ⟨a, rfl, a1⟩ := okd_int h1
  obtain ⟨b, rfl, b1⟩ := okd_int h2
  obtain ⟨c, rfl, c1⟩ := okd_int h3
  exact ⟨⟨a, b, c⟩, rfl⟩
theorem okd_picks {d : Dt} (h : OkD (.sl 3 plPick) d) : ∃ ps : List PickV, shP (.sl 3 plPick) d = [.sl 3 2 (ps.map ePick)] ∧ True := by
  obtain ⟨xs, rfl, b1⟩ := okd_sl h
  obtain ⟨ws, e2, b2⟩ := map_shP (Q := fun _ => True) (fun d h => by obtain ⟨x, hx⟩ := okd_pick h; exact ⟨x, hx, trivial⟩) xs b1
  exact ⟨ws, by show [Sh.sl 3 2 (xs.map fun x => shP plPick x)] = _; rw [e2], trivial⟩
section
variable {H : Type} {enc : TypeId × Value → H} {P : Program} {W : World} {base : Nat} {spare : Nat → Bool} {held : Bool}
end
end Go.Proofs.YtkbgdhomdbolnaaGreatDoor
