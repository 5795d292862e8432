/-
  The arguments of layer 13's laws.
-/
import Derived.Test.YtkkoeejhglbaeaaGreatDoorArg4
import Derived.Test.YtkkoeejhglbaeaaGreatDoorK13d
namespace Go.Proofs.YtkkoeejhglbaeaaGreatDoor
set_option linter.unusedSimpArgs false
set_option linter.unusedVariables false
open Go.ChangeShapes Go.WideShapes Go.ChangeAt Go.RowKit Go.Deep Go.Maps

def In64 (n : Int) : Prop := -9223372036854775808 ≤ n ∧ n ≤ 9223372036854775807
abbrev plI3 : Pl := .cons (.int .i64) (.cons (.int .i64) (.cons (.int .i64) .nil))
abbrev plU3 : Pl := .cons (.int .u8) (.cons (.int .u8) (.cons (.int .u8) .nil))
theorem pl_u8 : planOf Tryz.prog 8 5 = some (.int .u8) := by kernel_rfl
theorem pl_int64 : planOf Tryz.prog 8 2 = some (.int .i64) := by kernel_rfl
theorem pl_int : planOf Tryz.prog 8 3 = some (.int .i64) := by kernel_rfl
theorem pl_i64s : planOf Tryz.prog 8 85 = some (.sl 1 (.int .i64)) := by kernel_rfl
theorem pl_lay : planOf Tryz.prog 8 25 = some plI3 := by kernel_rfl
theorem pl_u3 : planOf Tryz.prog 8 59 = some plU3 := by kernel_rfl
theorem pl_words : planOf Tryz.prog 8 65 = some (.sl 3 plWord) := by kernel_rfl
theorem okd_i64s {d : Dt} (h : OkD (.sl 1 (.int .i64)) d) : ∃ xs : List Int, shP (.sl 1 (.int .i64)) d = [.sl 1 2 (xs.map fun x => [sI x])] ∧ ∀ x ∈ xs, In64 x := by
  obtain ⟨xs, rfl, hx0⟩ := okd_sl h
  obtain ⟨xs, e, hx⟩ := map_shP (p := .int .i64) (e := fun x : Int => [sI x]) (Q := In64) (fun d hd => by
    obtain ⟨n, rfl, h1⟩ := okd_int hd
    exact ⟨n, rfl, h1⟩) xs hx0
  exact ⟨xs, by show [Sh.sl 1 2 (_)] = _; rw [e], hx⟩
theorem okd_lay {d : Dt} (h : OkD plI3 d) : ∃ l : LayV, shP plI3 d = eLay l ∧ In64 l.threads ∧ In64 l.cells ∧ In64 l.blocks := by
  obtain ⟨a, d, rfl, ha, h⟩ := okd_cons h
  obtain ⟨b, d, rfl, hb, h⟩ := okd_cons h
  obtain ⟨c, d, rfl, hc, h⟩ := okd_cons h
  obtain rfl := okd_nil h
  obtain ⟨a, rfl, ha⟩ := okd_int ha
  obtain ⟨b, rfl, hb⟩ := okd_int hb
  obtain ⟨c, rfl, hc⟩ := okd_int hc
  exact ⟨⟨a, b, c⟩, rfl, ha, hb, hc⟩
theorem okd_u3 {d : Dt} (h : OkD plU3 d) : ∃ x : Int × Int × Int, shP plU3 d = [s8 x.1, s8 x.2.1, s8 x.2.2] ∧ (0 ≤ x.1 ∧ x.1 ≤ 255) ∧ (0 ≤ x.2.1 ∧ x.2.1 ≤ 255) ∧ (0 ≤ x.2.2 ∧ x.2.2 ≤ 255) := by
  obtain ⟨a, d, rfl, ha, h⟩ := okd_cons h
  obtain ⟨b, d, rfl, hb, h⟩ := okd_cons h
  obtain ⟨c, d, rfl, hc, h⟩ := okd_cons h
  obtain rfl := okd_nil h
  obtain ⟨a, rfl, ha⟩ := okd_int ha
  obtain ⟨b, rfl, hb⟩ := okd_int hb
  obtain ⟨c, rfl, hc⟩ := okd_int hc
  exact ⟨(a, b, c), rfl, ha, hb, hc⟩
theorem okd_words {d : Dt} (h : OkD (.sl 3 plWord) d) : ∃ ws : List WordV, shP (.sl 3 plWord) d = [.sl 3 2 (ws.map eWord)] ∧ ∀ w ∈ ws, WordIn w := by
  obtain ⟨xs, rfl, b1⟩ := okd_sl h
  obtain ⟨ws, e2, b2⟩ := map_shP (fun d h => okd_word h) xs b1
  exact ⟨ws, by show [Sh.sl 3 2 (xs.map fun x => shP plWord x)] = _; rw [e2], b2⟩
end Go.Proofs.YtkkoeejhglbaeaaGreatDoor
